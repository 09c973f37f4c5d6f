/- The walk of NotaryApart: what is signed by a clone's signers stands in that alone. Condition: bounds on the lists. -/
import Derived.Test.YtepdinfopcohiaaNpH
import Derived.Test.YtepdinfopcohiaaNpC
namespace Go.Proofs.Ytepdinfopcohiaa
open Go.RowKit Go.Lib


/-- The entries of a list behind those of another one. -/
def extN (W : List Nu) (l : List Nu) : List Nu := l.foldl (fun X e => (signN X e).1) W
theorem extN_take (W : List Nu) {l : List Nu} {k : Nat} (h : k < l.length) : extN W (l.take (k + 1)) = (signN (extN W (l.take k)) (l.getD k default)).1 := by
  unfold extN
  rw [take_snoc h, List.foldl_append]
  rfl
theorem signN_pre (l : List Nu) (e : Nu) : ∃ t, (signN l e).1 = l ++ t := by
  unfold signN
  cases posN l e with
  | some i => exact ⟨[], by simp⟩
  | none => exact ⟨[e], rfl⟩
theorem extN_pre (W : List Nu) (l : List Nu) : ∃ t, extN W l = W ++ t := by
  induction l generalizing W with
  | nil => exact ⟨[], by simp [extN]⟩
  | cons e l ih =>
    obtain ⟨t1, h1⟩ := signN_pre W e
    obtain ⟨t2, h2⟩ := ih (signN W e).1
    refine ⟨t1 ++ t2, ?_⟩
    show extN (signN W e).1 l = _
    rw [h2, h1, List.append_assoc]
theorem extN_ok {W l : List Nu} (hW : ∀ x ∈ W, x.ok) (hl : ∀ x ∈ l, x.ok) : ∀ x ∈ extN W l, x.ok := by
  induction l generalizing W with
  | nil => exact hW
  | cons e l ih => exact ih (W := (signN W e).1) (signN_ok hW (hl e (by simp))) (fun x hx => hl x (by simp [hx]))
theorem extN_len (W l : List Nu) : (extN W l).length ≤ W.length + l.length := by
  induction l generalizing W with
  | nil => simp [extN]
  | cons e l ih =>
    have h1 := ih (signN W e).1
    have h2 := (signN_len W e).1
    show (extN (signN W e).1 l).length ≤ _
    simp only [List.length_cons]
    omega
theorem ext_same (W l : List Nu) : decide ((W.map Nu.en) = ((extN W l).map Nu.en)) = decide ((extN W l).length = W.length) := by
  obtain ⟨t, h⟩ := extN_pre W l
  rw [h]
  by_cases ht : t = []
  · subst ht; simp
  · have hl : 0 < t.length := List.length_pos_iff.2 ht
    rw [decide_eq_false (by intro e; have := congrArg List.length e; rw [List.length_map, List.length_map, List.length_append] at this; omega), decide_eq_false (by rw [List.length_append]; omega)]
set_option maxRecDepth 100000 in
set_option maxHeartbeats 8000000 in
theorem apart_any (l : List Nu) (A : Option Addr) (n c : Nat) (m : List Nu) (Am : Option Addr) (nm cm : Nat) (w : World) (hr : Rd w w.heap.size 2 A n (flatL l)) (hs : ∀ x ∈ l, x.small) (hrm : Rd w w.heap.size 2 Am nm (flatL m)) (hsm : ∀ x ∈ m, x.small) :
    Calls Try.prog 6 #[.slice A n c, .slice Am nm cm] w fun r w' => r = .returned (.bool true) ∧ Below w.heap.size w w' := by
  have Hb0 := Lib.hid (Below.refl w.heap.size w)
  by_cases hbig : 20 < n ∨ 20 < nm
  · clear hr hs hrm hsm
    by_cases h1 : 20 < n
    · have hd0 : decide ((20 : Int) < (n : Int)) = true := decide_eq_true (by omega)
      clear hbig
      go_enter Try.func6, Try.ntmps6
      go_wp2_with (go_at_call 10; refine (told_any w).mono ?_; rintro r9 v9 ⟨rfl, hb9⟩; have Hv9 := Lib.hid (Hb0.out.trans (hb9.mono Hb0.out.size)); clear hb9)
      go_ret
      exact ⟨rfl, Hv9.out⟩
    have hd0 : decide ((20 : Int) < (n : Int)) = false := decide_eq_false (by omega)
    have hd1 : decide ((20 : Int) < (nm : Int)) = true := decide_eq_true (by omega)
    clear hbig
    go_enter Try.func6, Try.ntmps6
    go_wp2_with (go_at_call 10; refine (told_any w).mono ?_; rintro r9 v9 ⟨rfl, hb9⟩; have Hv9 := Lib.hid (Hb0.out.trans (hb9.mono Hb0.out.size)); clear hb9)
    go_ret
    exact ⟨rfl, Hv9.out⟩
  have hd0 : decide ((20 : Int) < (n : Int)) = false := decide_eq_false (by omega)
  have hd1 : decide ((20 : Int) < (nm : Int)) = false := decide_eq_false (by omega)
  have hn : n ≤ 20 := by omega
  have hnm : nm ≤ 20 := by omega
  have Hl := Lib.hid hr.llen; have Hlm := Lib.hid hrm.llen
  have Hr := Lib.hid hr; have Hs := Lib.hid hs; have Hrm := Lib.hid hrm; have Hsm := Lib.hid hsm
  clear hr hs hrm hsm hbig
  go_enter Try.func6, Try.ntmps6
  go_wp2_with fail
  refine (book_any l A n c w Hr.out Hs.out (by omega)).mono ?_
  rintro r w1 ⟨A', n', c', rfl, hO1, hB1, hb1⟩
  have HB1 := Lib.hid hB1; have HO1 := Lib.hid hO1; have Hb1 := Lib.hid hb1
  have Hok : Hid (∀ x ∈ bookN l, x.ok) := by
    have := bookN_ok Hs.out l.length (Nat.le_refl _)
    rwa [List.take_length] at this
  have Hln : Hid ((bookN l).length ≤ 20) := by
    have := bookN_len (l := l) l.length (Nat.le_refl _)
    rw [List.take_length] at this
    have := Hl.out
    show _ ≤ _
    omega
  have hln' : n' = (bookN l).length := by have := (Rd.of_own hO1).nlen; omega
  have Hln' := Lib.hid hln'
  clear hO1 hB1 hb1 hln'
  generalize bookN l = W at *
  go_wp2_with fail
  refine (bookClone_any _ _ _ _ w1 HB1.out (by rw [List.length_map]; have := Hln.out; omega)).mono ?_
  rintro r w2 ⟨b2, m2, rfl, hG, hb⟩
  have HG2 := Lib.hid hG; have Hb2 := Lib.hid hb
  have HB2 := Lib.hid (HB1.out.below hb)
  clear hG hb
  go_wp2_with fail
  refine (bookSame_any b2 _ _ _ w2 HG2.out.list HB2.out.list (by rw [List.length_map]; have := Hln.out; omega) (by rw [List.length_map]; have := Hln.out; omega)).mono ?_
  rintro r w3 ⟨rfl, hb⟩
  rw [decide_eq_true rfl]
  have HG3 := Lib.hid (HG2.out.below hb); have HB3 := Lib.hid (HB2.out.below hb); have Hb3 := Lib.hid (Hb2.out.trans (hb.mono Hb2.out.size))
  clear hb HG2 HB2
  go_wp2_with fail
  refine (bookSame_any _ b2 _ _ w3 HB3.out.list HG3.out.list (by rw [List.length_map]; have := Hln.out; omega) (by rw [List.length_map]; have := Hln.out; omega)).mono ?_
  rintro r w4 ⟨rfl, hb⟩
  rw [decide_eq_true rfl]
  have HG4 := Lib.hid (HG3.out.below hb); have Hb4 := Lib.hid (Hb3.out.trans (hb.mono Hb3.out.size))
  have HO4 : Hid (w4.ownsRow (w.heap.size + 2) 53 2 (.slice A' n' c') n' (flatN (extN W (m.take 0)))) := own_below HO1.out (Hb4.out)
  clear hb HG3 HB3
  go_wp2
  go_loopw [9, 10] (fun v9 i wr => ∃ (k : Nat) (A9 : Option Addr) (n9 c9 : Nat), k ≤ nm ∧ v9 = .slice A9 n9 c9 ∧ i = .int .i64 (k : Int) ∧ Hid (wr.ownsRow (w.heap.size + 2) 53 2 (.slice A9 n9 c9) n9 (flatN (extN W (m.take k)))) ∧ Hid (BookG wr w1.heap.size b2 m2 ((extN W (m.take k)).map Nu.en)) ∧ Hid (Below w1.heap.size w1 wr)) (fun _ i _ => nm - (Lib.intOf i).toNat)
  case atStart => exact ⟨0, A', n', c', Nat.zero_le _, rfl, rfl, HO4, HG4, Hb4⟩
  case round =>
    clear HO4 HG4
    obtain ⟨k, A9, n9, c9, hk, rfl, rfl, HO, HG, Hb⟩ := hrel
    have Hbw := Lib.hid (Hb1.out.trans (Hb.out.mono Hb1.out.size))
    by_cases hlt : k < nm
    · have hkl : k < m.length := by have := Hlm.out; omega
      obtain ⟨b, o, rfl, hbB, x0, x1⟩ := (Hrm.out.below Hbw.out (Nat.le_refl _)).le8 hlt
      have Hex := Lib.hid (extN_take W hkl)
      have Hsmk := Lib.hid (Hsm.out _ (getD_memN hkl))
      have Hxok := Lib.hid (extN_ok (W := W) (l := m.take k) Hok.out (fun x hx => (Hsm.out x (List.mem_of_mem_take hx)).ok))
      have Hxl : Hid ((extN W (m.take k)).length ≤ 40) := by
        have := extN_len W (m.take k)
        rw [List.length_take] at this
        have := Hln.out
        show _ ≤ _
        omega
      generalize extN W (m.take k) = X at *
      generalize m.getD k default = e at *
      have hk256 := Hsmk.out.1; have hm256 := Hsmk.out.2
      have hd3 : decide ((k : Int) < (nm : Int)) = true := decide_eq_true (by omega)
      have hi0 : (0 : Int) ≤ (k : Int) := by omega
      have hki : (k : Int) < (nm : Int) := by omega
      have hwk : IntKind.u64.wrap (e.k : Int) = (e.k : Int) := by rw [IntKind.wrap_u64]; omega
      have hwm : IntKind.u64.wrap (e.m : Int) = (e.m : Int) := by rw [IntKind.wrap_u64]; omega
      have hna := fun k => nil_sign b2 k
      have hme := fun k => meth_sign b2 k
      rw [types_many] at hna hme
      have hbC : b < w1.heap.size := Nat.lt_of_lt_of_le hbB Hb1.out.size
      go_wp2_with fail
      refine (digest_any e.k wr (by omega)).mono ?_
      rintro r v1 ⟨rfl, hb⟩
      have y0 := cell_kept x0 hb (by have := Hb.out.size; omega); have y1 := cell_kept x1 hb (by have := Hb.out.size; omega)
      have HO1' := Lib.hid (own_below HO.out hb); have HG1 := Lib.hid (HG.out.below hb); have Hb1' := Lib.hid (Hb.out.trans (hb.mono Hb.out.size))
      clear hb HO HG Hb x0 x1 Hbw
      go_wp2_with fail
      refine (signer_any (D8.of e.k) b2 v1).mono ?_
      rintro r v2 ⟨rfl, hb⟩
      have x0 := cell_kept y0 hb (by have := Hb1'.out.size; omega); have x1 := cell_kept y1 hb (by have := Hb1'.out.size; omega)
      have HO2 := Lib.hid (own_below HO1'.out hb); have HG2 := Lib.hid (HG1.out.below hb); have Hb2' := Lib.hid (Hb1'.out.trans (hb.mono Hb1'.out.size))
      clear hb HO1' HG1 Hb1' y0 y1
      go_upto_region 16 with fail
      refine wp_region_held_drew (S := fun w' => w'.cell? ⟨b, o + k * 2, none⟩ = some (.int .u8 (e.k : Int)) ∧ w'.cell? ⟨b, o + k * 2 + 1, none⟩ = some (.int .u8 (e.m : Int))) (by kernel_rfl) ⟨x0, x1⟩ (fun hHeld => ?_)
      refine takeH 0 (some 66) (v := ?_) rfl (by kernel_rfl) (by kernel_rfl) (by kernel_rfl) (by kernel_rfl) (fun _ _ _ h => h) (Or.inl ⟨by kernel_rfl, ?hy⟩) (by assumption) ?_
      case hy =>
        intro w' hSw
        try dsimp only at hSw
        first
          | (go_simp; done)
          | (go_simp; with_reducible rfl)
      simp only [Act.put, List.setIfInBounds_toArray, List.set_cons_zero, List.set_cons_succ]
      refine takeH 1 (some 67) (v := ?_) rfl (by kernel_rfl) (by kernel_rfl) (by kernel_rfl) (by kernel_rfl) (fun _ _ _ h => h) (Or.inl ⟨by kernel_rfl, ?hy⟩) (by assumption) ?_
      case hy =>
        intro w' hSw
        try dsimp only at hSw
        first
          | (go_simp; done)
          | (go_simp; with_reducible rfl)
      simp only [Act.put, List.setIfInBounds_toArray, List.set_cons_zero, List.set_cons_succ]
      refine takeH 2 (some 68) (v := ?_) rfl (by kernel_rfl) (by kernel_rfl) (by kernel_rfl) (by kernel_rfl) (fun _ _ _ h => h) (Or.inl ⟨by kernel_rfl, ?hy⟩) (by assumption) ?_
      case hy =>
        intro w' hSw
        try dsimp only at hSw
        first
          | (go_simp; done)
          | (go_simp; with_reducible rfl)
      simp only [Act.put, List.setIfInBounds_toArray, List.set_cons_zero, List.set_cons_succ]
      refine takeH 3 (some 69) (v := ?_) rfl (by kernel_rfl) (by kernel_rfl) (by kernel_rfl) (by kernel_rfl) (fun _ _ _ h => h) (Or.inl ⟨by kernel_rfl, ?hy⟩) (by assumption) ?_
      case hy =>
        intro w' hSw
        try dsimp only at hSw
        first
          | (go_simp; done)
          | (go_simp; with_reducible rfl)
      simp only [Act.put, List.setIfInBounds_toArray, List.set_cons_zero, List.set_cons_succ]
      refine takeH 4 (some 70) (v := ?_) rfl (by kernel_rfl) (by kernel_rfl) (by kernel_rfl) (by kernel_rfl) (fun _ _ _ h => h) (Or.inl ⟨by kernel_rfl, ?hy⟩) (by assumption) ?_
      case hy =>
        intro w' hSw
        try dsimp only at hSw
        first
          | (go_simp; done)
          | (go_simp; with_reducible rfl)
      simp only [Act.put, List.setIfInBounds_toArray, List.set_cons_zero, List.set_cons_succ]
      refine takeH 5 (some 71) (v := ?_) rfl (by kernel_rfl) (by kernel_rfl) (by kernel_rfl) (by kernel_rfl) (fun _ _ _ h => h) (Or.inl ⟨by kernel_rfl, ?hy⟩) (by assumption) ?_
      case hy =>
        intro w' hSw
        try dsimp only at hSw
        first
          | (go_simp; done)
          | (go_simp; with_reducible rfl)
      simp only [Act.put, List.setIfInBounds_toArray, List.set_cons_zero, List.set_cons_succ]
      refine takeH 6 (some 72) (v := ?_) rfl (by kernel_rfl) (by kernel_rfl) (by kernel_rfl) (by kernel_rfl) (fun _ _ _ h => h) (Or.inl ⟨by kernel_rfl, ?hy⟩) (by assumption) ?_
      case hy =>
        intro w' hSw
        try dsimp only at hSw
        first
          | (go_simp; done)
          | (go_simp; with_reducible rfl)
      simp only [Act.put, List.setIfInBounds_toArray, List.set_cons_zero, List.set_cons_succ]
      refine takeH 8 (some 74) (v := ?_) rfl (by kernel_rfl) (by kernel_rfl) (by kernel_rfl) (by kernel_rfl) (fun _ _ _ h => h) (Or.inl ⟨by kernel_rfl, ?hy⟩) (by assumption) ?_
      case hy =>
        intro w' hSw
        try dsimp only at hSw
        first
          | (go_simp; done)
          | (go_simp; with_reducible rfl)
      simp only [Act.put, List.setIfInBounds_toArray, List.set_cons_zero, List.set_cons_succ]
      refine takeH 9 (some 75) (v := ?_) rfl (by kernel_rfl) (by kernel_rfl) (by kernel_rfl) (by kernel_rfl) (fun _ _ _ h => h) (Or.inl ⟨by kernel_rfl, ?hy⟩) (by assumption) ?_
      case hy =>
        intro w' hSw
        try dsimp only at hSw
        first
          | (go_simp; done)
          | (go_simp; with_reducible rfl)
      simp only [Act.put, List.setIfInBounds_toArray, List.set_cons_zero, List.set_cons_succ]
      refine takeH 10 (some 76) (v := ?_) rfl (by kernel_rfl) (by kernel_rfl) (by kernel_rfl) (by kernel_rfl) (fun _ _ _ h => h) (Or.inl ⟨by kernel_rfl, ?hy⟩) (by assumption) ?_
      case hy =>
        intro w' hSw
        try dsimp only at hSw
        first
          | (go_simp; done)
          | (go_simp; with_reducible rfl)
      simp only [Act.put, List.setIfInBounds_toArray, List.set_cons_zero, List.set_cons_succ]
      refine wpAnyH_ready (rs := [7]) (by kernel_rfl) (by simp) ?_
      refine AllReadyH.cons rfl (fun K hK => ?_) AllReadyH.nil
      rw [if_pos (by kernel_rfl)]
      go_simp
      refine (digest_any e.m v2.drew (by omega)).mono ?_
      rintro r v3 ⟨rfl, hb⟩
      have hq := (Below.refl v2.heap.size v2).drew.trans hb
      have y0 := cell_kept x0 hq (by have := Hb2'.out.size; omega); have y1 := cell_kept x1 hq (by have := Hb2'.out.size; omega)
      have HO3 := Lib.hid (own_below HO2.out hq); have HG3 := Lib.hid (HG2.out.below hq); have Hb3' := Lib.hid (Hb2'.out.trans (hq.mono Hb2'.out.size))
      refine hK.out _ _ ⟨y0, y1⟩ (fun _ => ?_)
      clear hK K hb hq HO2 HG2 Hb2' x0 x1
      refine wpAnyH_ready (rs := [11]) (by kernel_rfl) (by simp) ?_
      refine AllReadyH.cons rfl (fun K hK => ?_) AllReadyH.nil
      rw [if_pos (by kernel_rfl)]
      go_simp
      refine (gwsign_any _ _ _ _ (D8.of e.k) (D8.of e.m) v3 HG3.out (d8_ok _) (d8_ok _) (by rw [List.length_map]; have := Hxl.out; omega)).mono ?_
      rintro r v4 ⟨g, rfl, hG, hq, hT⟩
      have x0 := cell_kept y0 hq hbC; have x1 := cell_kept y1 hq hbC
      have hse := sign_en (l := X) (e := e) Hxok.out Hsmk.out.ok
      rw [show (⟨D8.of e.k, D8.of e.m⟩ : En) = e.en from rfl, hse] at hG
      have HO4 := Lib.hid (hT.own HO3.out (by decide) (by decide)); have HG4 := Lib.hid hG; have Hb4' := Lib.hid (Hb3'.out.trans hq)
      refine hK.out _ _ ⟨x0, x1⟩ (fun _ => ?_)
      clear hK K hse hG hq hT HO3 HG3 Hb3' y0 y1
      refine wpAnyH_done (by kernel_rfl) ?_ _
      go_upto_region 17 with fail
      refine wp_region_held_drew (S := fun w' => w'.cell? ⟨b, o + k * 2, none⟩ = some (.int .u8 (e.k : Int)) ∧ w'.cell? ⟨b, o + k * 2 + 1, none⟩ = some (.int .u8 (e.m : Int))) (by kernel_rfl) ⟨x0, x1⟩ (fun hHeld => ?_)
      refine takeH 0 (some 79) (v := ?_) rfl (by kernel_rfl) (by kernel_rfl) (by kernel_rfl) (by kernel_rfl) (fun _ _ _ h => h) (Or.inl ⟨by kernel_rfl, ?hy⟩) (by assumption) ?_
      case hy =>
        intro w' hSw
        try dsimp only at hSw
        first
          | (go_simp; done)
          | (go_simp; with_reducible rfl)
      simp only [Act.put, List.setIfInBounds_toArray, List.set_cons_zero, List.set_cons_succ]
      refine takeH 1 (some 80) (v := ?_) rfl (by kernel_rfl) (by kernel_rfl) (by kernel_rfl) (by kernel_rfl) (fun _ _ _ h => h) (Or.inl ⟨by kernel_rfl, ?hy⟩) (by assumption) ?_
      case hy =>
        intro w' hSw
        try dsimp only at hSw
        first
          | (go_simp; done)
          | (go_simp; with_reducible rfl)
      simp only [Act.put, List.setIfInBounds_toArray, List.set_cons_zero, List.set_cons_succ]
      refine takeH 2 (some 81) (v := ?_) rfl (by kernel_rfl) (by kernel_rfl) (by kernel_rfl) (by kernel_rfl) (fun _ _ _ h => h) (Or.inl ⟨by kernel_rfl, ?hy⟩) (by assumption) ?_
      case hy =>
        intro w' hSw
        try dsimp only at hSw
        first
          | (go_simp; done)
          | (go_simp; with_reducible rfl)
      simp only [Act.put, List.setIfInBounds_toArray, List.set_cons_zero, List.set_cons_succ]
      refine takeH 3 (some 82) (v := ?_) rfl (by kernel_rfl) (by kernel_rfl) (by kernel_rfl) (by kernel_rfl) (fun _ _ _ h => h) (Or.inl ⟨by kernel_rfl, ?hy⟩) (by assumption) ?_
      case hy =>
        intro w' hSw
        try dsimp only at hSw
        first
          | (go_simp; done)
          | (go_simp; with_reducible rfl)
      simp only [Act.put, List.setIfInBounds_toArray, List.set_cons_zero, List.set_cons_succ]
      refine takeH 4 (some 83) (v := ?_) rfl (by kernel_rfl) (by kernel_rfl) (by kernel_rfl) (by kernel_rfl) (fun _ _ _ h => h) (Or.inl ⟨by kernel_rfl, ?hy⟩) (by assumption) ?_
      case hy =>
        intro w' hSw
        try dsimp only at hSw
        first
          | (go_simp; done)
          | (go_simp; with_reducible rfl)
      simp only [Act.put, List.setIfInBounds_toArray, List.set_cons_zero, List.set_cons_succ]
      refine takeH 5 (some 84) (v := ?_) rfl (by kernel_rfl) (by kernel_rfl) (by kernel_rfl) (by kernel_rfl) (fun _ _ _ h => h) (Or.inl ⟨by kernel_rfl, ?hy⟩) (by assumption) ?_
      case hy =>
        intro w' hSw
        try dsimp only at hSw
        first
          | (go_simp; done)
          | (go_simp; with_reducible rfl)
      simp only [Act.put, List.setIfInBounds_toArray, List.set_cons_zero, List.set_cons_succ]
      refine takeH 6 (some 85) (v := ?_) rfl (by kernel_rfl) (by kernel_rfl) (by kernel_rfl) (by kernel_rfl) (fun _ _ _ h => h) (Or.inl ⟨by kernel_rfl, ?hy⟩) (by assumption) ?_
      case hy =>
        intro w' hSw
        try dsimp only at hSw
        first
          | (go_simp; done)
          | (go_simp; with_reducible rfl)
      simp only [Act.put, List.setIfInBounds_toArray, List.set_cons_zero, List.set_cons_succ]
      refine takeH 7 (some 86) (v := ?_) rfl (by kernel_rfl) (by kernel_rfl) (by kernel_rfl) (by kernel_rfl) (fun _ _ _ h => h) (Or.inl ⟨by kernel_rfl, ?hy⟩) (by assumption) ?_
      case hy =>
        intro w' hSw
        try dsimp only at hSw
        first
          | (go_simp; done)
          | (go_simp; with_reducible rfl)
      simp only [Act.put, List.setIfInBounds_toArray, List.set_cons_zero, List.set_cons_succ]
      refine takeH 8 (some 87) (v := ?_) rfl (by kernel_rfl) (by kernel_rfl) (by kernel_rfl) (by kernel_rfl) (fun _ _ _ h => h) (Or.inl ⟨by kernel_rfl, ?hy⟩) (by assumption) ?_
      case hy =>
        intro w' hSw
        try dsimp only at hSw
        first
          | (go_simp; done)
          | (go_simp; with_reducible rfl)
      simp only [Act.put, List.setIfInBounds_toArray, List.set_cons_zero, List.set_cons_succ]
      refine takeH 9 (some 88) (v := ?_) rfl (by kernel_rfl) (by kernel_rfl) (by kernel_rfl) (by kernel_rfl) (fun _ _ _ h => h) (Or.inl ⟨by kernel_rfl, ?hy⟩) (by assumption) ?_
      case hy =>
        intro w' hSw
        try dsimp only at hSw
        first
          | (go_simp; done)
          | (go_simp; with_reducible rfl)
      simp only [Act.put, List.setIfInBounds_toArray, List.set_cons_zero, List.set_cons_succ]
      refine takeH 10 (some 89) (v := ?_) rfl (by kernel_rfl) (by kernel_rfl) (by kernel_rfl) (by kernel_rfl) (fun _ _ _ h => h) (Or.inl ⟨by kernel_rfl, ?hy⟩) (by assumption) ?_
      case hy =>
        intro w' hSw
        try dsimp only at hSw
        first
          | (go_simp; done)
          | (go_simp; with_reducible rfl)
      simp only [Act.put, List.setIfInBounds_toArray, List.set_cons_zero, List.set_cons_succ]
      refine takeH 11 (some 90) (v := ?_) rfl (by kernel_rfl) (by kernel_rfl) (by kernel_rfl) (by kernel_rfl) (fun _ _ _ h => h) (Or.inl ⟨by kernel_rfl, ?hy⟩) (by assumption) ?_
      case hy =>
        intro w' hSw
        try dsimp only at hSw
        first
          | (go_simp; done)
          | (go_simp; with_reducible rfl)
      simp only [Act.put, List.setIfInBounds_toArray, List.set_cons_zero, List.set_cons_succ]
      refine takeH 12 (some 91) (v := ?_) rfl (by kernel_rfl) (by kernel_rfl) (by kernel_rfl) (by kernel_rfl) (fun _ _ _ h => h) (Or.inl ⟨by kernel_rfl, ?hy⟩) (by assumption) ?_
      case hy =>
        intro w' hSw
        try dsimp only at hSw
        first
          | (go_simp; done)
          | (go_simp; with_reducible rfl)
      simp only [Act.put, List.setIfInBounds_toArray, List.set_cons_zero, List.set_cons_succ]
      refine takeH 13 (some 92) (v := ?_) rfl (by kernel_rfl) (by kernel_rfl) (by kernel_rfl) (by kernel_rfl) (fun _ _ _ h => h) (Or.inl ⟨by kernel_rfl, ?hy⟩) (by assumption) ?_
      case hy =>
        intro w' hSw
        try dsimp only at hSw
        first
          | (go_simp; done)
          | (go_simp; with_reducible rfl)
      simp only [Act.put, List.setIfInBounds_toArray, List.set_cons_zero, List.set_cons_succ]
      refine wpAnyH_ready (rs := [14]) (by kernel_rfl) (by simp) ?_
      refine AllReadyH.cons rfl (fun K hK => ?_) AllReadyH.nil
      rw [if_pos (by kernel_rfl)]
      go_simp
      refine (signr_any X e A9 n9 c9 (w.heap.size + 2) v4.drew (own_below HO4.out (Below.refl _ _).drew) (by have := Hb4'.out.size; have := HB1.out.hB; show _ ≤ v4.heap.size; omega) (by have := (Rd.of_own HO4.out).nlen; have := Hxl.out; omega)).mono ?_
      rintro r v5 ⟨A5, n5, c5, rfl, ho, hb⟩
      have hq := (Below.refl v4.heap.size v4).drew.trans hb
      have y0 := cell_kept x0 hq (by have := Hb4'.out.size; omega); have y1 := cell_kept x1 hq (by have := Hb4'.out.size; omega)
      have HO5 := Lib.hid ho; have HG5 := Lib.hid (HG4.out.below hq); have Hb5 := Lib.hid (Hb4'.out.trans (hq.mono Hb4'.out.size))
      refine hK.out _ _ ⟨y0, y1⟩ (fun _ => ?_)
      clear hK K hb hq ho HO4 HG4 Hb4' x0 x1
      refine takeH 15 (some 78) (v := ?_) rfl (by kernel_rfl) (by kernel_rfl) (by kernel_rfl) (by kernel_rfl) (fun _ _ _ h => h) (Or.inl ⟨by kernel_rfl, ?hy⟩) (by assumption) ?_
      case hy =>
        intro w' hSw
        try dsimp only at hSw
        first
          | (go_simp; done)
          | (go_simp; with_reducible rfl)
      simp only [Act.put, List.setIfInBounds_toArray, List.set_cons_zero, List.set_cons_succ]
      refine takeH 16 (some 94) (v := ?_) rfl (by kernel_rfl) (by kernel_rfl) (by kernel_rfl) (by kernel_rfl) (fun _ _ _ h => h) (Or.inl ⟨by kernel_rfl, ?hy⟩) (by assumption) ?_
      case hy =>
        intro w' hSw
        try dsimp only at hSw
        first
          | (go_simp; done)
          | (go_simp; with_reducible rfl)
      simp only [Act.put, List.setIfInBounds_toArray, List.set_cons_zero, List.set_cons_succ]
      refine takeH 17 (some 95) (v := ?_) rfl (by kernel_rfl) (by kernel_rfl) (by kernel_rfl) (by kernel_rfl) (fun _ _ _ h => h) (Or.inl ⟨by kernel_rfl, ?hy⟩) (by assumption) ?_
      case hy =>
        intro w' hSw
        try dsimp only at hSw
        first
          | (go_simp; done)
          | (go_simp; with_reducible rfl)
      simp only [Act.put, List.setIfInBounds_toArray, List.set_cons_zero, List.set_cons_succ]
      refine takeH 18 (some 12) (v := ?_) rfl (by kernel_rfl) (by kernel_rfl) (by kernel_rfl) (by kernel_rfl) (fun _ _ _ h => h) (Or.inl ⟨by kernel_rfl, ?hy⟩) (by assumption) ?_
      case hy =>
        intro w' hSw
        try dsimp only at hSw
        first
          | (go_simp; done)
          | (go_simp; with_reducible rfl)
      simp only [Act.put, List.setIfInBounds_toArray, List.set_cons_zero, List.set_cons_succ]
      refine takeH 19 (some 13) (v := ?_) rfl (by kernel_rfl) (by kernel_rfl) (by kernel_rfl) (by kernel_rfl) (fun _ _ _ h => h) (Or.inl ⟨by kernel_rfl, ?hy⟩) (by assumption) ?_
      case hy =>
        intro w' hSw
        try dsimp only at hSw
        first
          | (go_simp; done)
          | (go_simp; with_reducible rfl)
      simp only [Act.put, List.setIfInBounds_toArray, List.set_cons_zero, List.set_cons_succ]
      refine wpAnyH_done (by kernel_rfl) ?_ _
      go_upto_region 19 with fail
      refine wp_region_held_drew (S := fun w' => w'.cell? ⟨b, o + k * 2, none⟩ = some (.int .u8 (e.k : Int)) ∧ w'.cell? ⟨b, o + k * 2 + 1, none⟩ = some (.int .u8 (e.m : Int))) (by kernel_rfl) ⟨y0, y1⟩ (fun hHeld => ?_)
      refine takeH 0 (some 97) (v := ?_) rfl (by kernel_rfl) (by kernel_rfl) (by kernel_rfl) (by kernel_rfl) (fun _ _ _ h => h) (Or.inl ⟨by kernel_rfl, ?hy⟩) (by assumption) ?_
      case hy =>
        intro w' hSw
        try dsimp only at hSw
        first
          | (go_simp; done)
          | (go_simp; with_reducible rfl)
      simp only [Act.put, List.setIfInBounds_toArray, List.set_cons_zero, List.set_cons_succ]
      refine takeH 1 (some 98) (v := ?_) rfl (by kernel_rfl) (by kernel_rfl) (by kernel_rfl) (by kernel_rfl) (fun _ _ _ h => h) (Or.inl ⟨by kernel_rfl, ?hy⟩) (by assumption) ?_
      case hy =>
        intro w' hSw
        try dsimp only at hSw
        first
          | (go_simp; done)
          | (go_simp; with_reducible rfl)
      simp only [Act.put, List.setIfInBounds_toArray, List.set_cons_zero, List.set_cons_succ]
      refine takeH 2 (some 99) (v := ?_) rfl (by kernel_rfl) (by kernel_rfl) (by kernel_rfl) (by kernel_rfl) (fun _ _ _ h => h) (Or.inl ⟨by kernel_rfl, ?hy⟩) (by assumption) ?_
      case hy =>
        intro w' hSw
        try dsimp only at hSw
        first
          | (go_simp; done)
          | (go_simp; with_reducible rfl)
      simp only [Act.put, List.setIfInBounds_toArray, List.set_cons_zero, List.set_cons_succ]
      refine takeH 3 (some 100) (v := ?_) rfl (by kernel_rfl) (by kernel_rfl) (by kernel_rfl) (by kernel_rfl) (fun _ _ _ h => h) (Or.inl ⟨by kernel_rfl, ?hy⟩) (by assumption) ?_
      case hy =>
        intro w' hSw
        try dsimp only at hSw
        first
          | (go_simp; done)
          | (go_simp; with_reducible rfl)
      simp only [Act.put, List.setIfInBounds_toArray, List.set_cons_zero, List.set_cons_succ]
      refine takeH 4 (some 101) (v := ?_) rfl (by kernel_rfl) (by kernel_rfl) (by kernel_rfl) (by kernel_rfl) (fun _ _ _ h => h) (Or.inl ⟨by kernel_rfl, ?hy⟩) (by assumption) ?_
      case hy =>
        intro w' hSw
        try dsimp only at hSw
        first
          | (go_simp; done)
          | (go_simp; with_reducible rfl)
      simp only [Act.put, List.setIfInBounds_toArray, List.set_cons_zero, List.set_cons_succ]
      refine takeH 5 (some 102) (v := ?_) rfl (by kernel_rfl) (by kernel_rfl) (by kernel_rfl) (by kernel_rfl) (fun _ _ _ h => h) (Or.inl ⟨by kernel_rfl, ?hy⟩) (by assumption) ?_
      case hy =>
        intro w' hSw
        try dsimp only at hSw
        first
          | (go_simp; done)
          | (go_simp; with_reducible rfl)
      simp only [Act.put, List.setIfInBounds_toArray, List.set_cons_zero, List.set_cons_succ]
      refine takeH 6 (some 103) (v := ?_) rfl (by kernel_rfl) (by kernel_rfl) (by kernel_rfl) (by kernel_rfl) (fun _ _ _ h => h) (Or.inl ⟨by kernel_rfl, ?hy⟩) (by assumption) ?_
      case hy =>
        intro w' hSw
        try dsimp only at hSw
        first
          | (go_simp; done)
          | (go_simp; with_reducible rfl)
      simp only [Act.put, List.setIfInBounds_toArray, List.set_cons_zero, List.set_cons_succ]
      refine takeH 7 (some 104) (v := ?_) rfl (by kernel_rfl) (by kernel_rfl) (by kernel_rfl) (by kernel_rfl) (fun _ _ _ h => h) (Or.inl ⟨by kernel_rfl, ?hy⟩) (by assumption) ?_
      case hy =>
        intro w' hSw
        try dsimp only at hSw
        first
          | (go_simp; done)
          | (go_simp; with_reducible rfl)
      simp only [Act.put, List.setIfInBounds_toArray, List.set_cons_zero, List.set_cons_succ]
      refine takeH 8 (some 105) (v := ?_) rfl (by kernel_rfl) (by kernel_rfl) (by kernel_rfl) (by kernel_rfl) (fun _ _ _ h => h) (Or.inl ⟨by kernel_rfl, ?hy⟩) (by assumption) ?_
      case hy =>
        intro w' hSw
        try dsimp only at hSw
        first
          | (go_simp; done)
          | (go_simp; with_reducible rfl)
      simp only [Act.put, List.setIfInBounds_toArray, List.set_cons_zero, List.set_cons_succ]
      refine takeH 9 (some 106) (v := ?_) rfl (by kernel_rfl) (by kernel_rfl) (by kernel_rfl) (by kernel_rfl) (fun _ _ _ h => h) (Or.inl ⟨by kernel_rfl, ?hy⟩) (by assumption) ?_
      case hy =>
        intro w' hSw
        try dsimp only at hSw
        first
          | (go_simp; done)
          | (go_simp; with_reducible rfl)
      simp only [Act.put, List.setIfInBounds_toArray, List.set_cons_zero, List.set_cons_succ]
      refine takeH 10 (some 107) (v := ?_) rfl (by kernel_rfl) (by kernel_rfl) (by kernel_rfl) (by kernel_rfl) (fun _ _ _ h => h) (Or.inl ⟨by kernel_rfl, ?hy⟩) (by assumption) ?_
      case hy =>
        intro w' hSw
        try dsimp only at hSw
        first
          | (go_simp; done)
          | (go_simp; with_reducible rfl)
      simp only [Act.put, List.setIfInBounds_toArray, List.set_cons_zero, List.set_cons_succ]
      refine takeH 11 (some 108) (v := ?_) rfl (by kernel_rfl) (by kernel_rfl) (by kernel_rfl) (by kernel_rfl) (fun _ _ _ h => h) (Or.inl ⟨by kernel_rfl, ?hy⟩) (by assumption) ?_
      case hy =>
        intro w' hSw
        try dsimp only at hSw
        first
          | (go_simp; done)
          | (go_simp; with_reducible rfl)
      simp only [Act.put, List.setIfInBounds_toArray, List.set_cons_zero, List.set_cons_succ]
      refine takeH 12 (some 109) (v := ?_) rfl (by kernel_rfl) (by kernel_rfl) (by kernel_rfl) (by kernel_rfl) (fun _ _ _ h => h) (Or.inl ⟨by kernel_rfl, ?hy⟩) (by assumption) ?_
      case hy =>
        intro w' hSw
        try dsimp only at hSw
        first
          | (go_simp; done)
          | (go_simp; with_reducible rfl)
      simp only [Act.put, List.setIfInBounds_toArray, List.set_cons_zero, List.set_cons_succ]
      refine wpAnyH_ready (rs := [13]) (by kernel_rfl) (by simp) ?_
      refine AllReadyH.cons rfl (fun K hK => ?_) AllReadyH.nil
      rw [if_pos (by kernel_rfl)]
      go_simp
      have hqa : Below v5.heap.size v5 (v5.drew.alloc (.cells #[.int .u64 0, .int .u64 0] 53)) := (Below.refl v5.heap.size v5).drew.alloc (Nat.le_refl _) _
      have x0 := cell_kept y0 hqa (by have := Hb5.out.size; omega); have x1 := cell_kept y1 hqa (by have := Hb5.out.size; omega)
      have HZ6 : Hid ((v5.drew.alloc (.cells #[.int .u64 0, .int .u64 0] 53)).heap[v5.heap.size]? = some (.cells #[.int .u64 0, .int .u64 0] 53 (0, 0))) := heap_alloc_new v5.drew _
      have Hqa := Lib.hid hqa
      refine hK.out _ _ ⟨x0, x1⟩ (fun _ => ?_)
      clear hK K hqa
      have hbC' := Hb5.out.size
      refine wpAnyH_ready (rs := [14]) (by kernel_rfl) (by simp) ?_
      refine AllReadyH.cons rfl (fun K hK => ?_) AllReadyH.nil
      rw [if_pos (by kernel_rfl)]
      go_simp
      have hE7 : Hid ((v5.alloc (.cells #[.int .u64 (e.k : Int), .int .u64 (e.m : Int)] 53)).drew.heap[v5.heap.size]? = some (.cells #[.int .u64 (e.k : Int), .int .u64 (e.m : Int)] 53 (0, 0))) := heap_alloc_new v5 _
      have hq7 : Below v5.heap.size v5 (v5.alloc (.cells #[.int .u64 (e.k : Int), .int .u64 (e.m : Int)] 53)).drew := (below_one v5 _).drew
      have HO7 := Lib.hid (own_below HO5.out hq7); have HG7 := Lib.hid (HG5.out.below hq7); have Hb7 := Lib.hid (Hb5.out.trans (hq7.mono Hb5.out.size))
      have y0' := cell_kept y0 hq7 (by omega); have y1' := cell_kept y1 hq7 (by omega)
      refine hK.out _ _ ⟨y0', y1'⟩ (fun _ => ?_)
      clear hK K x0 x1 hq7 HO5 HG5 Hb5 HZ6 Hqa y0 y1 y0' y1'
      refine wpAnyH_done (by kernel_rfl) ?_ _
      generalize (v5.alloc (.cells #[.int .u64 (e.k : Int), .int .u64 (e.m : Int)] 53)).drew = v7 at *
      generalize v5.heap.size = bx at *
      have hpos := signN_pos X e
      have hslen := signN_len X e
      have Hfx : Hid (findN (signN X e).1 e = ((signN X e).2 : Int)) := by show _ = _; unfold findN; rw [hpos]
      have hq40 : (signN X e).2 ≤ 40 := by have := Hxl.out; omega
      have hX41 : (signN X e).1.length ≤ 41 := by have := Hxl.out; omega
      generalize hXe : (signN X e).1 = Xe at *
      generalize (signN X e).2 = q at *
      clear hpos hslen
      have HW := Lib.hid (own_below HO1.out Hb7.out)
      have hxx := block_lt hE7.out
      have w0 := block_cell hE7.out 0; have w1c := block_cell hE7.out 1
      simp at w0 w1c
      go_upto_region 20 with fail
      have hdq : decide ((0 : Int) ≤ (q : Int)) = true := decide_eq_true (by omega)
      cases hp : posN W e with
      | some i0 =>
        have Hf : Hid (findN W e = (i0 : Int)) := by show _ = _; unfold findN; rw [hp]
        have hdi : decide ((i0 : Int) < 0) = false := decide_eq_false (by omega)
        clear hp
        refine wp_region_held_drew (S := fun w' => w'.cell? ⟨bx, 0, none⟩ = some (.int .u64 (e.k : Int)) ∧ w'.cell? ⟨bx, 1, none⟩ = some (.int .u64 (e.m : Int))) (by kernel_rfl) ⟨w0, w1c⟩ (fun hHeld => ?_)
        refine takeH 0 (some 110) (v := ?_) rfl (by kernel_rfl) (by kernel_rfl) (by kernel_rfl) (by kernel_rfl) (fun _ _ _ h => h) (Or.inl ⟨by kernel_rfl, ?hy⟩) (by assumption) ?_
        case hy =>
          intro w' hSw
          try dsimp only at hSw
          first
            | (go_simp; done)
            | (go_simp; with_reducible rfl)
        simp only [Act.put, List.setIfInBounds_toArray, List.set_cons_zero, List.set_cons_succ]
        refine takeH 1 (some 111) (v := ?_) rfl (by kernel_rfl) (by kernel_rfl) (by kernel_rfl) (by kernel_rfl) (fun _ _ _ h => h) (Or.inl ⟨by kernel_rfl, ?hy⟩) (by assumption) ?_
        case hy =>
          intro w' hSw
          try dsimp only at hSw
          first
            | (go_simp; done)
            | (go_simp; with_reducible rfl)
        simp only [Act.put, List.setIfInBounds_toArray, List.set_cons_zero, List.set_cons_succ]
        refine wpAnyH_ready (rs := [2]) (by kernel_rfl) (by simp) ?_
        refine AllReadyH.cons rfl (fun K hK => ?_) AllReadyH.nil
        rw [if_pos (by kernel_rfl)]
        go_simp
        refine (findr_any W e A' n' c' v7.drew (Rd.of_own (own_below HW.out (Below.refl _ _).drew)) (by have := Hln'.out; have := Hln.out; omega)).mono ?_
        rintro r v8 ⟨rfl, hb⟩
        rw [Hf.out]
        have hq := (Below.refl v7.heap.size v7).drew.trans hb
        have HO8 := Lib.hid (own_below HO7.out hq); have HG8 := Lib.hid (HG7.out.below hq); have Hb8 := Lib.hid (Hb7.out.trans (hq.mono Hb7.out.size))
        refine hK.out _ _ ⟨cell_kept w0 hq hxx, cell_kept w1c hq hxx⟩ (fun _ => ?_)
        clear hK K hb hq HO7 HG7 Hb7
        refine takeH 3 (some 113) (v := ?_) rfl (by kernel_rfl) (by kernel_rfl) (by kernel_rfl) (by kernel_rfl) (fun _ _ _ h => h) (Or.inl ⟨by kernel_rfl, ?hy⟩) (by assumption) ?_
        case hy =>
          intro w' hSw
          try dsimp only at hSw
          first
            | (go_simp; done)
            | (go_simp; with_reducible rfl)
        simp only [Act.put, List.setIfInBounds_toArray, List.set_cons_zero, List.set_cons_succ]
        refine takeH 4 (some 114) (v := ?_) rfl (by kernel_rfl) (by kernel_rfl) (by kernel_rfl) (by kernel_rfl) (fun _ _ _ h => h) (Or.inl ⟨by kernel_rfl, ?hy⟩) (by assumption) ?_
        case hy =>
          intro w' hSw
          try dsimp only at hSw
          first
            | (go_simp; done)
            | (go_simp; with_reducible rfl)
        simp only [Act.put, List.setIfInBounds_toArray, List.set_cons_zero, List.set_cons_succ]
        refine takeH 5 (some 115) (v := undef) rfl (by kernel_rfl) (by kernel_rfl) (by kernel_rfl) (by kernel_rfl) (fun _ _ _ h => h) (Or.inr ⟨by kernel_rfl, rfl⟩) (by assumption) ?_
        simp only [Act.put, List.setIfInBounds_toArray, List.set_cons_zero, List.set_cons_succ]
        refine takeH 6 (some 116) (v := undef) rfl (by kernel_rfl) (by kernel_rfl) (by kernel_rfl) (by kernel_rfl) (fun _ _ _ h => h) (Or.inr ⟨by kernel_rfl, rfl⟩) (by assumption) ?_
        simp only [Act.put, List.setIfInBounds_toArray, List.set_cons_zero, List.set_cons_succ]
        refine takeH 7 (some 117) (v := undef) rfl (by kernel_rfl) (by kernel_rfl) (by kernel_rfl) (by kernel_rfl) (fun _ _ _ h => h) (Or.inr ⟨by kernel_rfl, rfl⟩) (by assumption) ?_
        simp only [Act.put, List.setIfInBounds_toArray, List.set_cons_zero, List.set_cons_succ]
        refine takeH 8 (some 118) (v := undef) rfl (by kernel_rfl) (by kernel_rfl) (by kernel_rfl) (by kernel_rfl) (fun _ _ _ h => h) (Or.inr ⟨by kernel_rfl, rfl⟩) (by assumption) ?_
        simp only [Act.put, List.setIfInBounds_toArray, List.set_cons_zero, List.set_cons_succ]
        refine takeH 9 (some 119) (v := undef) rfl (by kernel_rfl) (by kernel_rfl) (by kernel_rfl) (by kernel_rfl) (fun _ _ _ h => h) (Or.inr ⟨by kernel_rfl, rfl⟩) (by assumption) ?_
        simp only [Act.put, List.setIfInBounds_toArray, List.set_cons_zero, List.set_cons_succ]
        refine takeH 10 (some 120) (v := undef) rfl (by kernel_rfl) (by kernel_rfl) (by kernel_rfl) (by kernel_rfl) (fun _ _ _ h => h) (Or.inr ⟨by kernel_rfl, rfl⟩) (by assumption) ?_
        simp only [Act.put, List.setIfInBounds_toArray, List.set_cons_zero, List.set_cons_succ]
        refine takeH 11 (some 121) (v := undef) rfl (by kernel_rfl) (by kernel_rfl) (by kernel_rfl) (by kernel_rfl) (fun _ _ _ h => h) (Or.inr ⟨by kernel_rfl, rfl⟩) (by assumption) ?_
        simp only [Act.put, List.setIfInBounds_toArray, List.set_cons_zero, List.set_cons_succ]
        refine takeH 12 (some 122) (v := undef) rfl (by kernel_rfl) (by kernel_rfl) (by kernel_rfl) (by kernel_rfl) (fun _ _ _ h => h) (Or.inr ⟨by kernel_rfl, rfl⟩) (by assumption) ?_
        simp only [Act.put, List.setIfInBounds_toArray, List.set_cons_zero, List.set_cons_succ]
        refine takeH 13 (some 123) (v := undef) rfl (by kernel_rfl) (by kernel_rfl) (by kernel_rfl) (by kernel_rfl) (fun _ _ _ h => h) (Or.inr ⟨by kernel_rfl, rfl⟩) (by assumption) ?_
        simp only [Act.put, List.setIfInBounds_toArray, List.set_cons_zero, List.set_cons_succ]
        refine takeH 14 (some 124) (v := undef) rfl (by kernel_rfl) (by kernel_rfl) (by kernel_rfl) (by kernel_rfl) (fun _ _ _ h => h) (Or.inr ⟨by kernel_rfl, rfl⟩) (by assumption) ?_
        simp only [Act.put, List.setIfInBounds_toArray, List.set_cons_zero, List.set_cons_succ]
        refine takeH 15 (some 125) (v := undef) rfl (by kernel_rfl) (by kernel_rfl) (by kernel_rfl) (by kernel_rfl) (fun _ _ _ h => h) (Or.inr ⟨by kernel_rfl, rfl⟩) (by assumption) ?_
        simp only [Act.put, List.setIfInBounds_toArray, List.set_cons_zero, List.set_cons_succ]
        refine takeH 16 (some 126) (v := undef) rfl (by kernel_rfl) (by kernel_rfl) (by kernel_rfl) (by kernel_rfl) (fun _ _ _ h => h) (Or.inr ⟨by kernel_rfl, rfl⟩) (by assumption) ?_
        simp only [Act.put, List.setIfInBounds_toArray, List.set_cons_zero, List.set_cons_succ]
        refine takeH 17 (some 127) (v := undef) rfl (by kernel_rfl) (by kernel_rfl) (by kernel_rfl) (by kernel_rfl) (fun _ _ _ h => h) (Or.inr ⟨by kernel_rfl, rfl⟩) (by assumption) ?_
        simp only [Act.put, List.setIfInBounds_toArray, List.set_cons_zero, List.set_cons_succ]
        refine takeH 18 (some 128) (v := ?_) rfl (by kernel_rfl) (by kernel_rfl) (by kernel_rfl) (by kernel_rfl) (fun _ _ _ h => h) (Or.inl ⟨by kernel_rfl, ?hy⟩) (by assumption) ?_
        case hy =>
          intro w' hSw
          try dsimp only at hSw
          first
            | (go_simp; done)
            | (go_simp; with_reducible rfl)
        simp only [Act.put, List.setIfInBounds_toArray, List.set_cons_zero, List.set_cons_succ]
        refine wpAnyH_done (by kernel_rfl) ?_ _
        go_wp2
        go_roundw
        case rel =>
          refine ⟨k + 1, A5, n5, c5, hlt, rfl, by go_num, ?_, ?_, Hb8⟩
          · rw [Hex.out]; exact HO8
          · rw [Hex.out]; exact HG8
        case measure => simp [Lib.intOf]; omega
      | none =>
        have Hf : Hid (findN W e = -1) := by show _ = _; unfold findN; rw [hp]
        have Hnv : Hid (∀ s, verS (W.map Nu.en) e.en s = false) := fun s => by
          rw [verN_en Hok.out Hsmk.out.ok]; unfold verN; rw [hp]
        clear hp
        refine wp_region_held_drew (S := fun w' => w'.cell? ⟨bx, 0, none⟩ = some (.int .u64 (e.k : Int)) ∧ w'.cell? ⟨bx, 1, none⟩ = some (.int .u64 (e.m : Int))) (by kernel_rfl) ⟨w0, w1c⟩ (fun hHeld => ?_)
        refine takeH 0 (some 110) (v := ?_) rfl (by kernel_rfl) (by kernel_rfl) (by kernel_rfl) (by kernel_rfl) (fun _ _ _ h => h) (Or.inl ⟨by kernel_rfl, ?hy⟩) (by assumption) ?_
        case hy =>
          intro w' hSw
          try dsimp only at hSw
          first
            | (go_simp; done)
            | (go_simp; with_reducible rfl)
        simp only [Act.put, List.setIfInBounds_toArray, List.set_cons_zero, List.set_cons_succ]
        refine takeH 1 (some 111) (v := ?_) rfl (by kernel_rfl) (by kernel_rfl) (by kernel_rfl) (by kernel_rfl) (fun _ _ _ h => h) (Or.inl ⟨by kernel_rfl, ?hy⟩) (by assumption) ?_
        case hy =>
          intro w' hSw
          try dsimp only at hSw
          first
            | (go_simp; done)
            | (go_simp; with_reducible rfl)
        simp only [Act.put, List.setIfInBounds_toArray, List.set_cons_zero, List.set_cons_succ]
        refine wpAnyH_ready (rs := [2]) (by kernel_rfl) (by simp) ?_
        refine AllReadyH.cons rfl (fun K hK => ?_) AllReadyH.nil
        rw [if_pos (by kernel_rfl)]
        go_simp
        refine (findr_any W e A' n' c' v7.drew (Rd.of_own (own_below HW.out (Below.refl _ _).drew)) (by have := Hln'.out; have := Hln.out; omega)).mono ?_
        rintro r v8 ⟨rfl, hb⟩
        rw [Hf.out]
        have hq := (Below.refl v7.heap.size v7).drew.trans hb
        have hS : _ ∧ _ := ⟨cell_kept w0 hq hxx, cell_kept w1c hq hxx⟩
        have Hq8 := Lib.hid hq
        refine hK.out _ _ hS (fun _ => ?_)
        clear hK K hb hq
        refine takeH 3 (some 113) (v := ?_) rfl (by kernel_rfl) (by kernel_rfl) (by kernel_rfl) (by kernel_rfl) (fun _ _ _ h => h) (Or.inl ⟨by kernel_rfl, ?hy⟩) (by assumption) ?_
        case hy =>
          intro w' hSw
          try dsimp only at hSw
          first
            | (go_simp; done)
            | (go_simp; with_reducible rfl)
        simp only [Act.put, List.setIfInBounds_toArray, List.set_cons_zero, List.set_cons_succ]
        refine takeH 4 (some 114) (v := ?_) rfl (by kernel_rfl) (by kernel_rfl) (by kernel_rfl) (by kernel_rfl) (fun _ _ _ h => h) (Or.inl ⟨by kernel_rfl, ?hy⟩) (by assumption) ?_
        case hy =>
          intro w' hSw
          try dsimp only at hSw
          first
            | (go_simp; done)
            | (go_simp; with_reducible rfl)
        simp only [Act.put, List.setIfInBounds_toArray, List.set_cons_zero, List.set_cons_succ]
        refine takeH 5 (some 115) (v := ?_) rfl (by kernel_rfl) (by kernel_rfl) (by kernel_rfl) (by kernel_rfl) (fun _ _ _ h => h) (Or.inl ⟨by kernel_rfl, ?hy⟩) (by assumption) ?_
        case hy =>
          intro w' hSw
          try dsimp only at hSw
          first
            | (go_simp; done)
            | (go_simp; with_reducible rfl)
        simp only [Act.put, List.setIfInBounds_toArray, List.set_cons_zero, List.set_cons_succ]
        refine takeH 6 (some 116) (v := ?_) rfl (by kernel_rfl) (by kernel_rfl) (by kernel_rfl) (by kernel_rfl) (fun _ _ _ h => h) (Or.inl ⟨by kernel_rfl, ?hy⟩) (by assumption) ?_
        case hy =>
          intro w' hSw
          try dsimp only at hSw
          first
            | (go_simp; done)
            | (go_simp; with_reducible rfl)
        simp only [Act.put, List.setIfInBounds_toArray, List.set_cons_zero, List.set_cons_succ]
        refine takeH 7 (some 117) (v := ?_) rfl (by kernel_rfl) (by kernel_rfl) (by kernel_rfl) (by kernel_rfl) (fun _ _ _ h => h) (Or.inl ⟨by kernel_rfl, ?hy⟩) (by assumption) ?_
        case hy =>
          intro w' hSw
          try dsimp only at hSw
          first
            | (go_simp; done)
            | (go_simp; with_reducible rfl)
        simp only [Act.put, List.setIfInBounds_toArray, List.set_cons_zero, List.set_cons_succ]
        refine takeH 9 (some 119) (v := ?_) rfl (by kernel_rfl) (by kernel_rfl) (by kernel_rfl) (by kernel_rfl) (fun _ _ _ h => h) (Or.inl ⟨by kernel_rfl, ?hy⟩) (by assumption) ?_
        case hy =>
          intro w' hSw
          try dsimp only at hSw
          first
            | (go_simp; done)
            | (go_simp; with_reducible rfl)
        simp only [Act.put, List.setIfInBounds_toArray, List.set_cons_zero, List.set_cons_succ]
        refine takeH 10 (some 120) (v := ?_) rfl (by kernel_rfl) (by kernel_rfl) (by kernel_rfl) (by kernel_rfl) (fun _ _ _ h => h) (Or.inl ⟨by kernel_rfl, ?hy⟩) (by assumption) ?_
        case hy =>
          intro w' hSw
          try dsimp only at hSw
          first
            | (go_simp; done)
            | (go_simp; with_reducible rfl)
        simp only [Act.put, List.setIfInBounds_toArray, List.set_cons_zero, List.set_cons_succ]
        refine takeH 12 (some 122) (v := ?_) rfl (by kernel_rfl) (by kernel_rfl) (by kernel_rfl) (by kernel_rfl) (fun _ _ _ h => h) (Or.inl ⟨by kernel_rfl, ?hy⟩) (by assumption) ?_
        case hy =>
          intro w' hSw
          try dsimp only at hSw
          first
            | (go_simp; done)
            | (go_simp; with_reducible rfl)
        simp only [Act.put, List.setIfInBounds_toArray, List.set_cons_zero, List.set_cons_succ]
        refine takeH 13 (some 123) (v := ?_) rfl (by kernel_rfl) (by kernel_rfl) (by kernel_rfl) (by kernel_rfl) (fun _ _ _ h => h) (Or.inl ⟨by kernel_rfl, ?hy⟩) (by assumption) ?_
        case hy =>
          intro w' hSw
          try dsimp only at hSw
          first
            | (go_simp; done)
            | (go_simp; with_reducible rfl)
        simp only [Act.put, List.setIfInBounds_toArray, List.set_cons_zero, List.set_cons_succ]
        refine wpAnyH_ready (rs := [8]) (by kernel_rfl) (by simp) ?_
        refine AllReadyH.cons rfl (fun K hK => ?_) AllReadyH.nil
        rw [if_pos (by kernel_rfl)]
        go_simp
        refine (digest_any e.k v8 (by omega)).mono ?_
        rintro r v9 ⟨rfl, hb⟩
        have hS1 : _ ∧ _ := ⟨cell_kept hS.1 hb (by have := Hq8.out.size; omega), cell_kept hS.2 hb (by have := Hq8.out.size; omega)⟩
        have Hq9 := Lib.hid (Hq8.out.trans (hb.mono Hq8.out.size))
        refine hK.out _ _ hS1 (fun _ => ?_)
        clear hK K hb hS
        refine wpAnyH_ready (rs := [11]) (by kernel_rfl) (by simp) ?_
        refine AllReadyH.cons rfl (fun K hK => ?_) AllReadyH.nil
        rw [if_pos (by kernel_rfl)]
        go_simp
        refine (digest_any e.m v9 (by omega)).mono ?_
        rintro r v10 ⟨rfl, hb⟩
        have hS2 : _ ∧ _ := ⟨cell_kept hS1.1 hb (by have := Hq9.out.size; omega), cell_kept hS1.2 hb (by have := Hq9.out.size; omega)⟩
        have Hq10 := Lib.hid (Hq9.out.trans (hb.mono Hq9.out.size))
        refine hK.out _ _ hS2 (fun _ => ?_)
        clear hK K hb hS1
        refine wpAnyH_ready (rs := [14]) (by kernel_rfl) (by simp) ?_
        refine AllReadyH.cons rfl (fun K hK => ?_) AllReadyH.nil
        rw [if_pos (by kernel_rfl)]
        go_simp
        refine (findr_any Xe e A5 n5 c5 v10 (Rd.of_own (own_below HO7.out Hq10.out)) (by have := (Rd.of_own HO7.out).nlen; omega)).mono ?_
        rintro r v11 ⟨rfl, hb⟩
        rw [Hfx.out]
        have hS3 : _ ∧ _ := ⟨cell_kept hS2.1 hb (by have := Hq10.out.size; omega), cell_kept hS2.2 hb (by have := Hq10.out.size; omega)⟩
        have Hq11 := Lib.hid (Hq10.out.trans (hb.mono Hq10.out.size))
        refine hK.out _ _ hS3 (fun _ => ?_)
        clear hK K hb hS2
        refine wpAnyH_ready (rs := [15]) (by kernel_rfl) (by simp) ?_
        refine AllReadyH.cons rfl (fun K hK => ?_) AllReadyH.nil
        rw [if_pos (by kernel_rfl)]
        go_simp
        refine (bytesr_any q v11 (by omega)).mono ?_
        rintro r v12 ⟨rfl, hb⟩
        have hS4 : _ ∧ _ := ⟨cell_kept hS3.1 hb (by have := Hq11.out.size; omega), cell_kept hS3.2 hb (by have := Hq11.out.size; omega)⟩
        have Hq12 := Lib.hid (Hq11.out.trans (hb.mono Hq11.out.size))
        refine hK.out _ _ hS4 (fun _ => ?_)
        clear hK K hb hS3
        have hcv := Go.Lib.run_convert_string_bytes (P := Try.prog) v12 9 37 5 (strNo (sigL q)) Try.underlying9 Try.underlying37 Try.underlying5
        rw [strNo_size] at hcv
        generalize grownCap v12 (sigL q).length 0 5 = cap at hcv
        have hbb := bytesWorld_below v12 5 (strNo (sigL q))
        have HBl := Lib.hid (bytes_new v12 0 (Nat.zero_le _) (sigL q) (sigL_lt q) cap)
        have hS5 : _ ∧ _ := ⟨cell_kept hS4.1 hbb (by have := Hq12.out.size; omega), cell_kept hS4.2 hbb (by have := Hq12.out.size; omega)⟩
        have Hq13 := Lib.hid (Hq12.out.trans (hbb.mono Hq12.out.size))
        refine wpAnyH_ready (rs := [16]) (by kernel_rfl) (by simp) ?_
        refine AllReadyH.cons rfl (fun K hK => ?_) AllReadyH.nil
        rw [if_pos (by kernel_rfl)]
        go_simp
        refine hK.out _ _ hS5 (fun _ => ?_)
        clear hK K hS4 hbb hcv
        obtain ⟨A13, m13, c13, e13, hr13⟩ := HBl.out.rd
        injection e13 with e13a e13b e13c
        subst e13a e13b e13c
        have Hr13 := Lib.hid hr13
        clear hr13 HBl
        generalize bytesWorld v12 5 (strNo (sigL q)) = v13 at *
        have Hb13 := Lib.hid (Hb7.out.trans (Hq13.out.mono Hb7.out.size))
        have hS5' := hS5
        clear hS5
        refine wpAnyH_ready (rs := [17]) (by kernel_rfl) (by simp) ?_
        refine AllReadyH.cons rfl (fun K hK => ?_) AllReadyH.nil
        rw [if_pos (by kernel_rfl)]
        go_simp
        refine (verify_any _ _ _ _ ⟨D8.of e.k, D8.of e.m⟩ _ _ _ (sigL q) v13 (HB1.out.below Hb13.out) ⟨d8_ok _, d8_ok _⟩ (by rw [List.length_map]; have := Hln.out; omega) Hr13.out (sigL_lt q)).mono ?_
        rintro r v14 ⟨rfl, hb⟩
        rw [show (⟨D8.of e.k, D8.of e.m⟩ : En) = e.en from rfl, Hnv.out]
        have hq14 := Hq13.out.trans (hb.mono Hq13.out.size)
        have HO14 := Lib.hid (own_below HO7.out hq14); have HG14 := Lib.hid (HG7.out.below hq14); have Hb14 := Lib.hid (Hb7.out.trans (hq14.mono Hb7.out.size))
        refine hK.out _ _ ⟨cell_kept hS5'.1 hb (by have := Hq13.out.size; omega), cell_kept hS5'.2 hb (by have := Hq13.out.size; omega)⟩ (fun _ => ?_)
        clear hK K hb hq14 hS5'
        refine takeH 18 (some 128) (v := ?_) rfl (by kernel_rfl) (by kernel_rfl) (by kernel_rfl) (by kernel_rfl) (fun _ _ _ h => h) (Or.inl ⟨by kernel_rfl, ?hy⟩) (by assumption) ?_
        case hy =>
          intro w' hSw
          try dsimp only at hSw
          first
            | (go_simp; done)
            | (go_simp; with_reducible rfl)
        simp only [Act.put, List.setIfInBounds_toArray, List.set_cons_zero, List.set_cons_succ]
        refine wpAnyH_done (by kernel_rfl) ?_ _
        go_wp2
        go_roundw
        case rel =>
          refine ⟨k + 1, A5, n5, c5, hlt, rfl, by go_num, ?_, ?_, Hb14⟩
          · rw [Hex.out]; exact HO14
          · rw [Hex.out]; exact HG14
        case measure => simp [Lib.intOf]; omega
    · obtain rfl : nm = k := by omega
      have hd3 : decide ((nm : Int) < (nm : Int)) = false := by simp
      have ht : m.take nm = m := List.take_of_length_le (by have := Hlm.out; omega)
      rw [ht] at HO HG
      clear hlt ht
      have Hes := Lib.hid (ext_same W m)
      have Hxl : Hid ((extN W m).length ≤ 40) := by
        have := extN_len W m
        have := Hln.out; have := Hlm.out
        show _ ≤ _
        omega
      have hn9 := (Rd.of_own HO.out).nlen
      have hbe : decide ((n9 : Int) = (n' : Int)) = decide ((extN W m).length = W.length) := by
        rw [← hn9, Hln'.out]
        by_cases h : (extN W m).length = W.length
        · rw [decide_eq_true h, decide_eq_true (by omega)]
        · rw [decide_eq_false h, decide_eq_false (by omega)]
      have hbe2 : ((n9 : Int) == (n' : Int)) = decide ((extN W m).length = W.length) := by rw [← hbe]; rfl
      go_wp2_with fail
      refine (bookSame_any _ b2 _ _ wr (HB1.out.below Hb.out).list HG.out.list (by rw [List.length_map]; have := Hln.out; omega) (by rw [List.length_map]; have := Hxl.out; omega)).mono ?_
      rintro r v1 ⟨rfl, hb⟩
      rw [Hes.out]
      have Hb1' := Lib.hid (Hbw.out.trans (hb.mono Hbw.out.size))
      generalize decide ((extN W m).length = W.length) = db at *
      have hdb : (db == db) = true := by simp
      clear hb hn9
      go_wp2_with (go_at_call 10; refine (told_any v1).mono ?_; rintro r9 v9 ⟨rfl, hb9⟩; have Hv9 := Lib.hid (Hb1'.out.trans (hb9.mono Hb1'.out.size)); clear hb9)
      go_ret
      exact ⟨rfl, Hv9.out⟩
end Go.Proofs.Ytepdinfopcohiaa
