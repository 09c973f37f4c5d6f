/- The walk of book: a book of what was signed, and its entries. Condition: bounds on how many. -/
import Derived.Test.YtepdinfopcohiaaNoT
import Derived.Test.YtepdinfopcohiaaNoJ
import Derived.Deep.DeepCutAuto
namespace Go.Proofs.Ytepdinfopcohiaa
open Go.RowKit Go.Lib


theorem cell_kept {w w' : World} {B b j : Nat} {v : Value} (h : w.cell? ⟨b, j, none⟩ = some v) (hb : Below B w w') (hl : b < B) : w'.cell? ⟨b, j, none⟩ = some v := (World.cell?_of_block (hb.block b hl)).trans h
theorem own_book {w w' : World} {B bk mb base n : Nat} {v : Value} {xs : List Value} {L : List En} (h : Kept w w' bk mb) (hb : BookAt w B bk mb L) (ho : w.ownsRow base 53 2 v n xs) : w'.ownsRow base 53 2 v n xs := by
  obtain ⟨A, n, c, h1, _⟩ := hb.book
  exact h.own ho (by decide) (fun cs e => by rw [h1] at e; simp at e)
set_option maxRecDepth 100000 in
set_option maxHeartbeats 2000000 in
theorem book_any (l : List Nu) (A : Option Addr) (n c : Nat) (w : World) (hr : Rd w w.heap.size 2 A n (flatL l)) (hs : ∀ x ∈ l, x.small) (hn : n ≤ 100) :
    Calls Try.prog 11 #[.slice A n c] w fun r w' => ∃ A' n' c', r = .returned (.tuple #[.pointer (some ⟨w.heap.size + 1, 0, none⟩), .slice A' n' c', .bool true]) ∧ w'.ownsRow (w.heap.size + 2) 53 2 (.slice A' n' c') n' (flatN (bookN l)) ∧
      BookAt w' (w.heap.size + 2) (w.heap.size + 1) w.heap.size ((bookN l).map Nu.en) ∧ Below w.heap.size w w' := by
  have Hl := Lib.hid hr.llen
  have Hr := Lib.hid hr
  have Hs := Lib.hid hs
  clear hr hs
  have hna := fun k => nil_sign (w.heap.size + 1) k
  have hme := fun k => meth_sign (w.heap.size + 1) k
  have hke := fun k => meth_key (w.heap.size + 1) k
  rw [types_many] at hna hme hke
  have heq := eql_dig
  have hneq := neq_dig
  go_enter Try.func11, Try.ntmps11
  go_wp2_with fail
  refine (newBook_any w).mono ?_
  rintro r w1 ⟨rfl, hB1, hb1⟩
  have HB1 := Lib.hid hB1; have Hb1 := Lib.hid hb1; clear hB1 hb1
  have HE : Hid (w1.ownsRow (w.heap.size + 2) 53 2 (.slice none 0 0) 0 (flatN [])) := World.ownsRow_nil _ _ _ _
  go_wp2
  go_loopw [6, 7] (fun v i wr => ∃ (k : Nat) (A' : Option Addr) (n' c' : Nat), k ≤ n ∧ v = .slice A' n' c' ∧ i = .int .i64 (k : Int) ∧ Hid (wr.ownsRow (w.heap.size + 2) 53 2 (.slice A' n' c') n' (flatN (bookN (l.take k)))) ∧
    Hid (BookAt wr (w.heap.size + 2) (w.heap.size + 1) w.heap.size ((bookN (l.take k)).map Nu.en)) ∧ Hid (Below w.heap.size w wr)) (fun _ i _ => n - (Lib.intOf i).toNat)
  case atStart => exact ⟨0, none, 0, 0, Nat.zero_le _, rfl, rfl, HE, HB1, Hb1⟩
  case round =>
    obtain ⟨k, A', n', c', hk, rfl, rfl, HO, HB, Hb⟩ := hrel
    by_cases hlt : k < n
    · have hkl : k < l.length := by have := Hl.out; omega
      obtain ⟨b, o, rfl, hbB, x0, x1⟩ := (Hr.out.below Hb.out (Nat.le_refl _)).le8 hlt
      have Hsm := Lib.hid (Hs.out _ (getD_memN hkl))
      have Htk := Lib.hid (bookN_take hkl)
      have Hok := Lib.hid (bookN_ok Hs.out k (by omega))
      have Hln := Lib.hid (bookN_len (l := l) k (by omega))
      generalize l.getD k default = e at *
      generalize bookN (l.take k) = W at *
      have hd1 : decide ((k : Int) < (n : Int)) = true := decide_eq_true (by omega)
      have hi0 : (0 : Int) ≤ (k : Int) := by omega
      have hki : (k : Int) < (n : Int) := by omega
      have hk256 := Hsm.out.1; have hm256 := Hsm.out.2
      have hkr : ((e.k : Int)) < 256 := by omega
      have hwk : IntKind.u64.wrap (e.k : Int) = (e.k : Int) := by rw [IntKind.wrap_u64]; omega
      have hwm : IntKind.u64.wrap (e.m : Int) = (e.m : Int) := by rw [IntKind.wrap_u64]; omega
      have hself : eqI [((D8.of e.k).x0 : Int), ((D8.of e.k).x1 : Int), ((D8.of e.k).x2 : Int), ((D8.of e.k).x3 : Int), ((D8.of e.k).x4 : Int), ((D8.of e.k).x5 : Int), ((D8.of e.k).x6 : Int), ((D8.of e.k).x7 : Int)] [((D8.of e.k).x0 : Int), ((D8.of e.k).x1 : Int), ((D8.of e.k).x2 : Int), ((D8.of e.k).x3 : Int), ((D8.of e.k).x4 : Int), ((D8.of e.k).x5 : Int), ((D8.of e.k).x6 : Int), ((D8.of e.k).x7 : Int)] = true := eqN_iff.2 rfl
      clear hkl
      go_wp2_with fail
      refine (digest_any e.k wr (by omega)).mono ?_
      rintro r w2 ⟨rfl, hb2⟩
      have hbb2 := Hb.out.trans (hb2.mono Hb.out.size)
      have y0 := cell_kept x0 hb2 (by have := Hb.out.size; omega); have y1 := cell_kept x1 hb2 (by have := Hb.out.size; omega)
      have HO2 := Lib.hid (own_below HO.out hb2); have HB2 := Lib.hid (HB.out.below hb2); have Hb2 := Lib.hid hbb2
      clear x0 x1 hb2 hbb2 HO HB
      go_wp2_with fail
      refine (signer_any (D8.of e.k) (w.heap.size + 1) w2).mono ?_
      rintro r w3 ⟨rfl, hb3⟩
      have hbb3 := Hb2.out.trans (hb3.mono Hb2.out.size)
      have x0 := cell_kept y0 hb3 (by have := Hb2.out.size; omega); have x1 := cell_kept y1 hb3 (by have := Hb2.out.size; omega)
      have HO3 := Lib.hid (own_below HO2.out hb3); have HB3 := Lib.hid (HB2.out.below hb3); have Hb3 := Lib.hid hbb3
      clear y0 y1 hb3 hbb3 HO2 HB2 Hb2
      go_upto_region 9 with fail
      go_cut [44] (fun s44 wx => s44 = .bool false ∧ Hid (wx.ownsRow (w.heap.size + 2) 53 2 (.slice A' n' c') n' (flatN W)) ∧ Hid (BookAt wx (w.heap.size + 2) (w.heap.size + 1) w.heap.size (W.map Nu.en)) ∧ Hid (Below w.heap.size w wx) ∧ Hid (wx.cell? ⟨b, o + k * 2, none⟩ = some (.int .u8 (e.k : Int))) ∧ Hid (wx.cell? ⟨b, o + k * 2 + 1, none⟩ = some (.int .u8 (e.m : Int))))
      case first =>
        refine wp_region_held_drew (S := fun w' => w'.cell? ⟨b, o + k * 2, none⟩ = some (.int .u8 (e.k : Int)) ∧ w'.cell? ⟨b, o + k * 2 + 1, none⟩ = some (.int .u8 (e.m : Int))) (by kernel_rfl) ⟨x0, x1⟩ (fun hHeld => ?_)
        refine takeH 0 (some 31) (v := ?_) rfl (by kernel_rfl) (by kernel_rfl) (by kernel_rfl) (by kernel_rfl) (fun _ _ _ h => h) (Or.inl ⟨by kernel_rfl, ?hy⟩) (by assumption) ?_
        case hy =>
          intro w' hSw
          try dsimp only at hSw
          first
            | (go_simp; done)
            | (go_simp; with_reducible rfl)
        simp only [Act.put, List.setIfInBounds_toArray, List.set_cons_zero, List.set_cons_succ]
        refine takeH 1 (some 32) (v := ?_) rfl (by kernel_rfl) (by kernel_rfl) (by kernel_rfl) (by kernel_rfl) (fun _ _ _ h => h) (Or.inl ⟨by kernel_rfl, ?hy⟩) (by assumption) ?_
        case hy =>
          intro w' hSw
          try dsimp only at hSw
          first
            | (go_simp; done)
            | (go_simp; with_reducible rfl)
        simp only [Act.put, List.setIfInBounds_toArray, List.set_cons_zero, List.set_cons_succ]
        refine takeH 2 (some 33) (v := ?_) rfl (by kernel_rfl) (by kernel_rfl) (by kernel_rfl) (by kernel_rfl) (fun _ _ _ h => h) (Or.inl ⟨by kernel_rfl, ?hy⟩) (by assumption) ?_
        case hy =>
          intro w' hSw
          try dsimp only at hSw
          first
            | (go_simp; done)
            | (go_simp; with_reducible rfl)
        simp only [Act.put, List.setIfInBounds_toArray, List.set_cons_zero, List.set_cons_succ]
        refine takeH 3 (some 34) (v := ?_) rfl (by kernel_rfl) (by kernel_rfl) (by kernel_rfl) (by kernel_rfl) (fun _ _ _ h => h) (Or.inl ⟨by kernel_rfl, ?hy⟩) (by assumption) ?_
        case hy =>
          intro w' hSw
          try dsimp only at hSw
          first
            | (go_simp; done)
            | (go_simp; with_reducible rfl)
        simp only [Act.put, List.setIfInBounds_toArray, List.set_cons_zero, List.set_cons_succ]
        refine takeH 5 (some 36) (v := ?_) rfl (by kernel_rfl) (by kernel_rfl) (by kernel_rfl) (by kernel_rfl) (fun _ _ _ h => h) (Or.inl ⟨by kernel_rfl, ?hy⟩) (by assumption) ?_
        case hy =>
          intro w' hSw
          try dsimp only at hSw
          first
            | (go_simp; done)
            | (go_simp; with_reducible rfl)
        simp only [Act.put, List.setIfInBounds_toArray, List.set_cons_zero, List.set_cons_succ]
        refine takeH 6 (some 37) (v := ?_) rfl (by kernel_rfl) (by kernel_rfl) (by kernel_rfl) (by kernel_rfl) (fun _ _ _ h => h) (Or.inl ⟨by kernel_rfl, ?hy⟩) (by assumption) ?_
        case hy =>
          intro w' hSw
          try dsimp only at hSw
          first
            | (go_simp; done)
            | (go_simp; with_reducible rfl)
        simp only [Act.put, List.setIfInBounds_toArray, List.set_cons_zero, List.set_cons_succ]
        refine takeH 7 (some 38) (v := ?_) rfl (by kernel_rfl) (by kernel_rfl) (by kernel_rfl) (by kernel_rfl) (fun _ _ _ h => h) (Or.inl ⟨by kernel_rfl, ?hy⟩) (by assumption) ?_
        case hy =>
          intro w' hSw
          try dsimp only at hSw
          first
            | (go_simp; done)
            | (go_simp; with_reducible rfl)
        simp only [Act.put, List.setIfInBounds_toArray, List.set_cons_zero, List.set_cons_succ]
        refine takeH 8 (some 39) (v := ?_) rfl (by kernel_rfl) (by kernel_rfl) (by kernel_rfl) (by kernel_rfl) (fun _ _ _ h => h) (Or.inl ⟨by kernel_rfl, ?hy⟩) (by assumption) ?_
        case hy =>
          intro w' hSw
          try dsimp only at hSw
          first
            | (go_simp; done)
            | (go_simp; with_reducible rfl)
        simp only [Act.put, List.setIfInBounds_toArray, List.set_cons_zero, List.set_cons_succ]
        refine takeH 9 (some 40) (v := ?_) rfl (by kernel_rfl) (by kernel_rfl) (by kernel_rfl) (by kernel_rfl) (fun _ _ _ h => h) (Or.inl ⟨by kernel_rfl, ?hy⟩) (by assumption) ?_
        case hy =>
          intro w' hSw
          try dsimp only at hSw
          first
            | (go_simp; done)
            | (go_simp; with_reducible rfl)
        simp only [Act.put, List.setIfInBounds_toArray, List.set_cons_zero, List.set_cons_succ]
        refine takeH 10 (some 41) (v := ?_) rfl (by kernel_rfl) (by kernel_rfl) (by kernel_rfl) (by kernel_rfl) (fun _ _ _ h => h) (Or.inl ⟨by kernel_rfl, ?hy⟩) (by assumption) ?_
        case hy =>
          intro w' hSw
          try dsimp only at hSw
          first
            | (go_simp; done)
            | (go_simp; with_reducible rfl)
        simp only [Act.put, List.setIfInBounds_toArray, List.set_cons_zero, List.set_cons_succ]
        refine wpAnyH_ready (rs := [4]) (by kernel_rfl) (by simp) ?_
        refine AllReadyH.cons rfl (fun K hK => ?_) AllReadyH.nil
        try simp only [List.getElem_toArray, List.getElem_cons_succ, List.getElem_cons_zero]
        rw [if_pos (by kernel_rfl)]
        go_simp
        refine (key_any (D8.of e.k) (w.heap.size + 1) w3.drew).mono ?_
        rintro r w4 ⟨rfl, hb4⟩
        have hq4 := (Below.refl w3.heap.size w3).drew.trans hb4
        have z0 := cell_kept x0 hq4 (by have := Hb3.out.size; omega); have z1 := cell_kept x1 hq4 (by have := Hb3.out.size; omega)
        refine hK.out _ _ ⟨z0, z1⟩ (fun _ => ?_)
        clear hK K
        refine wpAnyH_ready (rs := [11]) (by kernel_rfl) (by simp) ?_
        refine AllReadyH.cons rfl (fun K hK => ?_) AllReadyH.nil
        try simp only [List.getElem_toArray, List.getElem_cons_succ, List.getElem_cons_zero]
        rw [if_pos (by kernel_rfl)]
        go_simp
        refine (digest_any e.k w4 (by omega)).mono ?_
        rintro r w5 ⟨rfl, hb5⟩
        have hq5 := hq4.trans (hb5.mono hq4.size)
        have v0 := cell_kept x0 hq5 (by have := Hb3.out.size; omega); have v1 := cell_kept x1 hq5 (by have := Hb3.out.size; omega)
        refine hK.out _ _ ⟨v0, v1⟩ (fun _ => ?_)
        clear hK K
        refine takeH 12 (some 43) (v := ?_) rfl (by kernel_rfl) (by kernel_rfl) (by kernel_rfl) (by kernel_rfl) (fun _ _ _ h => h) (Or.inl ⟨by kernel_rfl, ?hy⟩) (by assumption) ?_
        case hy =>
          intro w' hSw
          try dsimp only at hSw
          first
            | (go_simp; done)
            | (go_simp; with_reducible rfl)
        simp only [Act.put, List.setIfInBounds_toArray, List.set_cons_zero, List.set_cons_succ]
        refine takeH 13 (some 44) (v := ?_) rfl (by kernel_rfl) (by kernel_rfl) (by kernel_rfl) (by kernel_rfl) (fun _ _ _ h => h) (Or.inl ⟨by kernel_rfl, ?hy⟩) (by assumption) ?_
        case hy =>
          intro w' hSw
          try dsimp only at hSw
          first
            | (go_simp; done)
            | (go_simp; with_reducible rfl)
        simp only [Act.put, List.setIfInBounds_toArray, List.set_cons_zero, List.set_cons_succ]
        refine wpAnyH_done (by kernel_rfl) ?_ _
        go_wp2_with fail
        go_meet
        exact ⟨rfl, Lib.hid (own_below HO3.out hq5), Lib.hid (HB3.out.below hq5), Lib.hid (Hb3.out.trans (hq5.mono Hb3.out.size)), Lib.hid v0, Lib.hid v1⟩
      case rest =>
        obtain ⟨rfl, HO6, HB6, Hb6, Hy6, Hx6⟩ := hcut
        have x1 := Hx6.out
        have Hcc := Lib.hid (And.intro Hy6.out x1)
        go_wp2_with fail
        refine wp_region_held_drew (S := fun w' => w'.cell? ⟨b, o + k * 2 + 1, none⟩ = some (.int .u8 (e.m : Int))) (by kernel_rfl) x1 (fun hHeld => ?_)
        refine takeH 0 (some 46) (v := ?_) rfl (by kernel_rfl) (by kernel_rfl) (by kernel_rfl) (by kernel_rfl) (fun _ _ _ h => h) (Or.inl ⟨by kernel_rfl, ?hy⟩) (by assumption) ?_
        case hy =>
          intro w' hSw
          try dsimp only at hSw
          first
            | (go_simp; done)
            | (go_simp; with_reducible rfl)
        simp only [Act.put, List.setIfInBounds_toArray, List.set_cons_zero, List.set_cons_succ]
        refine takeH 1 (some 47) (v := ?_) rfl (by kernel_rfl) (by kernel_rfl) (by kernel_rfl) (by kernel_rfl) (fun _ _ _ h => h) (Or.inl ⟨by kernel_rfl, ?hy⟩) (by assumption) ?_
        case hy =>
          intro w' hSw
          try dsimp only at hSw
          first
            | (go_simp; done)
            | (go_simp; with_reducible rfl)
        simp only [Act.put, List.setIfInBounds_toArray, List.set_cons_zero, List.set_cons_succ]
        refine takeH 2 (some 48) (v := ?_) rfl (by kernel_rfl) (by kernel_rfl) (by kernel_rfl) (by kernel_rfl) (fun _ _ _ h => h) (Or.inl ⟨by kernel_rfl, ?hy⟩) (by assumption) ?_
        case hy =>
          intro w' hSw
          try dsimp only at hSw
          first
            | (go_simp; done)
            | (go_simp; with_reducible rfl)
        simp only [Act.put, List.setIfInBounds_toArray, List.set_cons_zero, List.set_cons_succ]
        refine takeH 3 (some 49) (v := ?_) rfl (by kernel_rfl) (by kernel_rfl) (by kernel_rfl) (by kernel_rfl) (fun _ _ _ h => h) (Or.inl ⟨by kernel_rfl, ?hy⟩) (by assumption) ?_
        case hy =>
          intro w' hSw
          try dsimp only at hSw
          first
            | (go_simp; done)
            | (go_simp; with_reducible rfl)
        simp only [Act.put, List.setIfInBounds_toArray, List.set_cons_zero, List.set_cons_succ]
        refine takeH 4 (some 50) (v := ?_) rfl (by kernel_rfl) (by kernel_rfl) (by kernel_rfl) (by kernel_rfl) (fun _ _ _ h => h) (Or.inl ⟨by kernel_rfl, ?hy⟩) (by assumption) ?_
        case hy =>
          intro w' hSw
          try dsimp only at hSw
          first
            | (go_simp; done)
            | (go_simp; with_reducible rfl)
        simp only [Act.put, List.setIfInBounds_toArray, List.set_cons_zero, List.set_cons_succ]
        refine takeH 5 (some 51) (v := ?_) rfl (by kernel_rfl) (by kernel_rfl) (by kernel_rfl) (by kernel_rfl) (fun _ _ _ h => h) (Or.inl ⟨by kernel_rfl, ?hy⟩) (by assumption) ?_
        case hy =>
          intro w' hSw
          try dsimp only at hSw
          first
            | (go_simp; done)
            | (go_simp; with_reducible rfl)
        simp only [Act.put, List.setIfInBounds_toArray, List.set_cons_zero, List.set_cons_succ]
        refine takeH 6 (some 52) (v := ?_) rfl (by kernel_rfl) (by kernel_rfl) (by kernel_rfl) (by kernel_rfl) (fun _ _ _ h => h) (Or.inl ⟨by kernel_rfl, ?hy⟩) (by assumption) ?_
        case hy =>
          intro w' hSw
          try dsimp only at hSw
          first
            | (go_simp; done)
            | (go_simp; with_reducible rfl)
        simp only [Act.put, List.setIfInBounds_toArray, List.set_cons_zero, List.set_cons_succ]
        refine takeH 8 (some 54) (v := ?_) rfl (by kernel_rfl) (by kernel_rfl) (by kernel_rfl) (by kernel_rfl) (fun _ _ _ h => h) (Or.inl ⟨by kernel_rfl, ?hy⟩) (by assumption) ?_
        case hy =>
          intro w' hSw
          try dsimp only at hSw
          first
            | (go_simp; done)
            | (go_simp; with_reducible rfl)
        simp only [Act.put, List.setIfInBounds_toArray, List.set_cons_zero, List.set_cons_succ]
        refine takeH 9 (some 55) (v := ?_) rfl (by kernel_rfl) (by kernel_rfl) (by kernel_rfl) (by kernel_rfl) (fun _ _ _ h => h) (Or.inl ⟨by kernel_rfl, ?hy⟩) (by assumption) ?_
        case hy =>
          intro w' hSw
          try dsimp only at hSw
          first
            | (go_simp; done)
            | (go_simp; with_reducible rfl)
        simp only [Act.put, List.setIfInBounds_toArray, List.set_cons_zero, List.set_cons_succ]
        refine takeH 10 (some 56) (v := ?_) rfl (by kernel_rfl) (by kernel_rfl) (by kernel_rfl) (by kernel_rfl) (fun _ _ _ h => h) (Or.inl ⟨by kernel_rfl, ?hy⟩) (by assumption) ?_
        case hy =>
          intro w' hSw
          try dsimp only at hSw
          first
            | (go_simp; done)
            | (go_simp; with_reducible rfl)
        simp only [Act.put, List.setIfInBounds_toArray, List.set_cons_zero, List.set_cons_succ]
        refine wpAnyH_ready (rs := [7]) (by kernel_rfl) (by simp) ?_
        refine AllReadyH.cons rfl (fun K hK => ?_) AllReadyH.nil
        rw [if_pos (by kernel_rfl)]
        go_simp
        refine (digest_any e.m wc.drew (by omega)).mono ?_
        rintro r w7 ⟨rfl, hb7⟩
        have hq7 := (Below.refl wc.heap.size wc).drew.trans hb7
        have z1 := cell_kept x1 hq7 (by have := Hb6.out.size; omega)
        have HO7 := Lib.hid (own_below HO6.out hq7); have HB7 := Lib.hid (HB6.out.below hq7); have Hb7 := Lib.hid (Hb6.out.trans (hq7.mono Hb6.out.size))
        clear hq7
        refine hK.out _ _ z1 (fun _ => ?_)
        clear hK K
        refine wpAnyH_ready (rs := [11]) (by kernel_rfl) (by simp) ?_
        refine AllReadyH.cons rfl (fun K hK => ?_) AllReadyH.nil
        rw [if_pos (by kernel_rfl)]
        go_simp
        refine (wsign_any _ _ _ _ (D8.of e.k) (D8.of e.m) w7 HB7.out (d8_ok _) (d8_ok _) (by rw [List.length_map]; have := Hln.out; omega)).mono ?_
        rintro r w8 ⟨g, rfl, h81, h82, h83, h84⟩
        have hse := sign_en (l := W) (e := e) Hok.out Hsm.out.ok
        rw [show (⟨D8.of e.k, D8.of e.m⟩ : En) = e.en from rfl, hse] at h82 h83
        have hq8 := h84.below (B := w.heap.size) (by omega) (Nat.le_refl _)
        have HO8 := Lib.hid (own_book h84 HB7.out HO7.out); have HS8 := Lib.hid h82; have HB8 := Lib.hid h83; have Hb8 := Lib.hid (Hb7.out.trans hq8)
        have Hbw := Lib.hid (((((Below.refl wc.heap.size wc).drew.trans hb7).mono Hb6.out.size)).trans hq8)
        have v1 := cell_kept z1 hq8 (by omega)
        clear hse h81 h82 h83 h84 hq8 z1
        refine hK.out _ _ v1 (fun _ => ?_)
        clear hK K
        refine takeH 12 (some 45) (v := ?_) rfl (by kernel_rfl) (by kernel_rfl) (by kernel_rfl) (by kernel_rfl) (fun _ _ _ h => h) (Or.inl ⟨by kernel_rfl, ?hy⟩) (by assumption) ?_
        case hy =>
          intro w' hSw
          try dsimp only at hSw
          first
            | (go_simp; done)
            | (go_simp; with_reducible rfl)
        simp only [Act.put, List.setIfInBounds_toArray, List.set_cons_zero, List.set_cons_succ]
        refine takeH 13 (some 58) (v := ?_) rfl (by kernel_rfl) (by kernel_rfl) (by kernel_rfl) (by kernel_rfl) (fun _ _ _ h => h) (Or.inl ⟨by kernel_rfl, ?hy⟩) (by assumption) ?_
        case hy =>
          intro w' hSw
          try dsimp only at hSw
          first
            | (go_simp; done)
            | (go_simp; with_reducible rfl)
        simp only [Act.put, List.setIfInBounds_toArray, List.set_cons_zero, List.set_cons_succ]
        refine takeH 14 (some 59) (v := ?_) rfl (by kernel_rfl) (by kernel_rfl) (by kernel_rfl) (by kernel_rfl) (fun _ _ _ h => h) (Or.inl ⟨by kernel_rfl, ?hy⟩) (by assumption) ?_
        case hy =>
          intro w' hSw
          try dsimp only at hSw
          first
            | (go_simp; done)
            | (go_simp; with_reducible rfl)
        simp only [Act.put, List.setIfInBounds_toArray, List.set_cons_zero, List.set_cons_succ]
        refine takeH 15 (some 9) (v := ?_) rfl (by kernel_rfl) (by kernel_rfl) (by kernel_rfl) (by kernel_rfl) (fun _ _ _ h => h) (Or.inl ⟨by kernel_rfl, ?hy⟩) (by assumption) ?_
        case hy =>
          intro w' hSw
          try dsimp only at hSw
          first
            | (go_simp; done)
            | (go_simp; with_reducible rfl)
        simp only [Act.put, List.setIfInBounds_toArray, List.set_cons_zero, List.set_cons_succ]
        refine takeH 16 (some 10) (v := ?_) rfl (by kernel_rfl) (by kernel_rfl) (by kernel_rfl) (by kernel_rfl) (fun _ _ _ h => h) (Or.inl ⟨by kernel_rfl, ?hy⟩) (by assumption) ?_
        case hy =>
          intro w' hSw
          try dsimp only at hSw
          first
            | (go_simp; done)
            | (go_simp; with_reducible rfl)
        simp only [Act.put, List.setIfInBounds_toArray, List.set_cons_zero, List.set_cons_succ]
        refine wpAnyH_done (by kernel_rfl) ?_ _
        go_wp2_with fail
        have hbw : Hid (Below w.heap.size wc w8) := Hbw.out
        have c0 := cell_kept Hcc.out.1 hbw.out hbB
        have c1 := cell_kept Hcc.out.2 hbw.out hbB
        refine wp_region_held_drew (S := fun w' => w'.cell? ⟨b, o + k * 2, none⟩ = some (.int .u8 (e.k : Int)) ∧ w'.cell? ⟨b, o + k * 2 + 1, none⟩ = some (.int .u8 (e.m : Int))) (by kernel_rfl) ⟨c0, c1⟩ (fun hHeld => ?_)
        refine takeH 0 (some 61) (v := ?_) rfl (by kernel_rfl) (by kernel_rfl) (by kernel_rfl) (by kernel_rfl) (fun _ _ _ h => h) (Or.inl ⟨by kernel_rfl, ?hy⟩) (by assumption) ?_
        case hy =>
          intro w' hSw
          try dsimp only at hSw
          first
            | (go_simp; done)
            | (go_simp; with_reducible rfl)
        simp only [Act.put, List.setIfInBounds_toArray, List.set_cons_zero, List.set_cons_succ]
        refine takeH 1 (some 62) (v := ?_) rfl (by kernel_rfl) (by kernel_rfl) (by kernel_rfl) (by kernel_rfl) (fun _ _ _ h => h) (Or.inl ⟨by kernel_rfl, ?hy⟩) (by assumption) ?_
        case hy =>
          intro w' hSw
          try dsimp only at hSw
          first
            | (go_simp; done)
            | (go_simp; with_reducible rfl)
        simp only [Act.put, List.setIfInBounds_toArray, List.set_cons_zero, List.set_cons_succ]
        refine takeH 2 (some 63) (v := ?_) rfl (by kernel_rfl) (by kernel_rfl) (by kernel_rfl) (by kernel_rfl) (fun _ _ _ h => h) (Or.inl ⟨by kernel_rfl, ?hy⟩) (by assumption) ?_
        case hy =>
          intro w' hSw
          try dsimp only at hSw
          first
            | (go_simp; done)
            | (go_simp; with_reducible rfl)
        simp only [Act.put, List.setIfInBounds_toArray, List.set_cons_zero, List.set_cons_succ]
        refine takeH 3 (some 64) (v := ?_) rfl (by kernel_rfl) (by kernel_rfl) (by kernel_rfl) (by kernel_rfl) (fun _ _ _ h => h) (Or.inl ⟨by kernel_rfl, ?hy⟩) (by assumption) ?_
        case hy =>
          intro w' hSw
          try dsimp only at hSw
          first
            | (go_simp; done)
            | (go_simp; with_reducible rfl)
        simp only [Act.put, List.setIfInBounds_toArray, List.set_cons_zero, List.set_cons_succ]
        refine takeH 4 (some 65) (v := ?_) rfl (by kernel_rfl) (by kernel_rfl) (by kernel_rfl) (by kernel_rfl) (fun _ _ _ h => h) (Or.inl ⟨by kernel_rfl, ?hy⟩) (by assumption) ?_
        case hy =>
          intro w' hSw
          try dsimp only at hSw
          first
            | (go_simp; done)
            | (go_simp; with_reducible rfl)
        simp only [Act.put, List.setIfInBounds_toArray, List.set_cons_zero, List.set_cons_succ]
        refine takeH 5 (some 66) (v := ?_) rfl (by kernel_rfl) (by kernel_rfl) (by kernel_rfl) (by kernel_rfl) (fun _ _ _ h => h) (Or.inl ⟨by kernel_rfl, ?hy⟩) (by assumption) ?_
        case hy =>
          intro w' hSw
          try dsimp only at hSw
          first
            | (go_simp; done)
            | (go_simp; with_reducible rfl)
        simp only [Act.put, List.setIfInBounds_toArray, List.set_cons_zero, List.set_cons_succ]
        refine takeH 6 (some 67) (v := ?_) rfl (by kernel_rfl) (by kernel_rfl) (by kernel_rfl) (by kernel_rfl) (fun _ _ _ h => h) (Or.inl ⟨by kernel_rfl, ?hy⟩) (by assumption) ?_
        case hy =>
          intro w' hSw
          try dsimp only at hSw
          first
            | (go_simp; done)
            | (go_simp; with_reducible rfl)
        simp only [Act.put, List.setIfInBounds_toArray, List.set_cons_zero, List.set_cons_succ]
        refine takeH 7 (some 68) (v := ?_) rfl (by kernel_rfl) (by kernel_rfl) (by kernel_rfl) (by kernel_rfl) (fun _ _ _ h => h) (Or.inl ⟨by kernel_rfl, ?hy⟩) (by assumption) ?_
        case hy =>
          intro w' hSw
          try dsimp only at hSw
          first
            | (go_simp; done)
            | (go_simp; with_reducible rfl)
        simp only [Act.put, List.setIfInBounds_toArray, List.set_cons_zero, List.set_cons_succ]
        refine takeH 8 (some 69) (v := ?_) rfl (by kernel_rfl) (by kernel_rfl) (by kernel_rfl) (by kernel_rfl) (fun _ _ _ h => h) (Or.inl ⟨by kernel_rfl, ?hy⟩) (by assumption) ?_
        case hy =>
          intro w' hSw
          try dsimp only at hSw
          first
            | (go_simp; done)
            | (go_simp; with_reducible rfl)
        simp only [Act.put, List.setIfInBounds_toArray, List.set_cons_zero, List.set_cons_succ]
        refine takeH 9 (some 70) (v := ?_) rfl (by kernel_rfl) (by kernel_rfl) (by kernel_rfl) (by kernel_rfl) (fun _ _ _ h => h) (Or.inl ⟨by kernel_rfl, ?hy⟩) (by assumption) ?_
        case hy =>
          intro w' hSw
          try dsimp only at hSw
          first
            | (go_simp; done)
            | (go_simp; with_reducible rfl)
        simp only [Act.put, List.setIfInBounds_toArray, List.set_cons_zero, List.set_cons_succ]
        refine takeH 10 (some 71) (v := ?_) rfl (by kernel_rfl) (by kernel_rfl) (by kernel_rfl) (by kernel_rfl) (fun _ _ _ h => h) (Or.inl ⟨by kernel_rfl, ?hy⟩) (by assumption) ?_
        case hy =>
          intro w' hSw
          try dsimp only at hSw
          first
            | (go_simp; done)
            | (go_simp; with_reducible rfl)
        simp only [Act.put, List.setIfInBounds_toArray, List.set_cons_zero, List.set_cons_succ]
        refine takeH 11 (some 72) (v := ?_) rfl (by kernel_rfl) (by kernel_rfl) (by kernel_rfl) (by kernel_rfl) (fun _ _ _ h => h) (Or.inl ⟨by kernel_rfl, ?hy⟩) (by assumption) ?_
        case hy =>
          intro w' hSw
          try dsimp only at hSw
          first
            | (go_simp; done)
            | (go_simp; with_reducible rfl)
        simp only [Act.put, List.setIfInBounds_toArray, List.set_cons_zero, List.set_cons_succ]
        refine takeH 12 (some 73) (v := ?_) rfl (by kernel_rfl) (by kernel_rfl) (by kernel_rfl) (by kernel_rfl) (fun _ _ _ h => h) (Or.inl ⟨by kernel_rfl, ?hy⟩) (by assumption) ?_
        case hy =>
          intro w' hSw
          try dsimp only at hSw
          first
            | (go_simp; done)
            | (go_simp; with_reducible rfl)
        simp only [Act.put, List.setIfInBounds_toArray, List.set_cons_zero, List.set_cons_succ]
        refine takeH 13 (some 74) (v := ?_) rfl (by kernel_rfl) (by kernel_rfl) (by kernel_rfl) (by kernel_rfl) (fun _ _ _ h => h) (Or.inl ⟨by kernel_rfl, ?hy⟩) (by assumption) ?_
        case hy =>
          intro w' hSw
          try dsimp only at hSw
          first
            | (go_simp; done)
            | (go_simp; with_reducible rfl)
        simp only [Act.put, List.setIfInBounds_toArray, List.set_cons_zero, List.set_cons_succ]
        refine wpAnyH_ready (rs := [14]) (by kernel_rfl) (by simp) ?_
        refine AllReadyH.cons rfl (fun K hK => ?_) AllReadyH.nil
        rw [if_pos (by kernel_rfl)]
        go_simp
        refine (signr_any W e A' n' c' (w.heap.size + 2) w8.drew (own_below HO8.out (Below.refl _ _).drew) (by have := HB8.out.hB; exact this) (by have := (Rd.of_own HO8.out).nlen; have := Hln.out; omega)).mono ?_
        rintro r w9 ⟨A2, n2, c2, rfl, h91, h92⟩
        have hq9 := (Below.refl w8.heap.size w8).drew.trans h92
        have HO9 := Lib.hid h91; have HS9 := Lib.hid (sig_below HS8.out hq9); have HB9 := Lib.hid (HB8.out.below hq9); have Hb9 := Lib.hid (Hb8.out.trans (hq9.mono Hb8.out.size))
        have e0 := cell_kept c0 hq9 (by have := Hb8.out.size; omega)
        have e1 := cell_kept c1 hq9 (by have := Hb8.out.size; omega)
        clear h91 h92 hq9
        refine hK.out _ _ ⟨e0, e1⟩ (fun _ => ?_)
        clear hK K
        refine takeH 15 (some 60) (v := ?_) rfl (by kernel_rfl) (by kernel_rfl) (by kernel_rfl) (by kernel_rfl) (fun _ _ _ h => h) (Or.inl ⟨by kernel_rfl, ?hy⟩) (by assumption) ?_
        case hy =>
          intro w' hSw
          try dsimp only at hSw
          first
            | (go_simp; done)
            | (go_simp; with_reducible rfl)
        simp only [Act.put, List.setIfInBounds_toArray, List.set_cons_zero, List.set_cons_succ]
        refine takeH 16 (some 76) (v := ?_) rfl (by kernel_rfl) (by kernel_rfl) (by kernel_rfl) (by kernel_rfl) (fun _ _ _ h => h) (Or.inl ⟨by kernel_rfl, ?hy⟩) (by assumption) ?_
        case hy =>
          intro w' hSw
          try dsimp only at hSw
          first
            | (go_simp; done)
            | (go_simp; with_reducible rfl)
        simp only [Act.put, List.setIfInBounds_toArray, List.set_cons_zero, List.set_cons_succ]
        refine takeH 17 (some 77) (v := ?_) rfl (by kernel_rfl) (by kernel_rfl) (by kernel_rfl) (by kernel_rfl) (fun _ _ _ h => h) (Or.inl ⟨by kernel_rfl, ?hy⟩) (by assumption) ?_
        case hy =>
          intro w' hSw
          try dsimp only at hSw
          first
            | (go_simp; done)
            | (go_simp; with_reducible rfl)
        simp only [Act.put, List.setIfInBounds_toArray, List.set_cons_zero, List.set_cons_succ]
        refine takeH 18 (some 11) (v := ?_) rfl (by kernel_rfl) (by kernel_rfl) (by kernel_rfl) (by kernel_rfl) (fun _ _ _ h => h) (Or.inl ⟨by kernel_rfl, ?hy⟩) (by assumption) ?_
        case hy =>
          intro w' hSw
          try dsimp only at hSw
          first
            | (go_simp; done)
            | (go_simp; with_reducible rfl)
        simp only [Act.put, List.setIfInBounds_toArray, List.set_cons_zero, List.set_cons_succ]
        refine takeH 19 (some 12) (v := ?_) rfl (by kernel_rfl) (by kernel_rfl) (by kernel_rfl) (by kernel_rfl) (fun _ _ _ h => h) (Or.inl ⟨by kernel_rfl, ?hy⟩) (by assumption) ?_
        case hy =>
          intro w' hSw
          try dsimp only at hSw
          first
            | (go_simp; done)
            | (go_simp; with_reducible rfl)
        simp only [Act.put, List.setIfInBounds_toArray, List.set_cons_zero, List.set_cons_succ]
        refine wpAnyH_done (by kernel_rfl) ?_ _
        clear c0 c1 e0 e1
        go_wp2_with fail
        have Hq := Lib.hid (signN_len W e)
        generalize (signN W e).2 = q at *
        refine wp_region_held_drew (S := fun w' => SigAt w' g q) (by kernel_rfl) HS9.out (fun hHeld => ?_)
        refine takeH 0 (some 79) (v := ?_) rfl (by kernel_rfl) (by kernel_rfl) (by kernel_rfl) (by kernel_rfl) (fun _ _ _ h => h) (Or.inl ⟨by kernel_rfl, ?hy⟩) (by assumption) ?_
        case hy =>
          intro w' hSw
          try dsimp only at hSw
          first
            | (go_simp; done)
            | (go_simp; with_reducible rfl)
        simp only [Act.put, List.setIfInBounds_toArray, List.set_cons_zero, List.set_cons_succ]
        refine takeH 1 (some 80) (v := ?_) rfl (by kernel_rfl) (by kernel_rfl) (by kernel_rfl) (by kernel_rfl) (fun _ _ _ h => h) (Or.inl ⟨by kernel_rfl, ?hy⟩) (by assumption) ?_
        case hy =>
          intro w' hSw
          try dsimp only at hSw
          first
            | (go_simp; done)
            | (go_simp; with_reducible rfl)
        simp only [Act.put, List.setIfInBounds_toArray, List.set_cons_zero, List.set_cons_succ]
        refine takeH 2 (some 81) (v := ?_) rfl (by kernel_rfl) (by kernel_rfl) (by kernel_rfl) (by kernel_rfl) (fun _ _ _ h => h) (Or.inl ⟨by kernel_rfl, ?hy⟩) (by assumption) ?_
        case hy =>
          intro w' hSw
          try dsimp only at hSw
          first
            | (go_simp; done)
            | (go_simp; with_reducible rfl)
        simp only [Act.put, List.setIfInBounds_toArray, List.set_cons_zero, List.set_cons_succ]
        refine takeH 3 (some 82) (v := ?_) rfl (by kernel_rfl) (by kernel_rfl) (by kernel_rfl) (by kernel_rfl) (fun _ _ _ h => h) (Or.inl ⟨by kernel_rfl, ?hy⟩) (by assumption) ?_
        case hy =>
          intro w' hSw
          try dsimp only at hSw
          first
            | (go_simp; done)
            | (go_simp; with_reducible rfl)
        simp only [Act.put, List.setIfInBounds_toArray, List.set_cons_zero, List.set_cons_succ]
        refine takeH 4 (some 83) (v := .string (strNo (sigL q))) rfl (by kernel_rfl) (by kernel_rfl) (by kernel_rfl) (by kernel_rfl) (fun _ _ _ h => h) (Or.inl ⟨by kernel_rfl, ?hy⟩) (by assumption) ?_
        case hy =>
          intro w' hSw
          try dsimp only at hSw
          have hcv := conv_sig hSw 2
          go_simp
        simp only [Act.put, List.setIfInBounds_toArray, List.set_cons_zero, List.set_cons_succ]
        refine takeH 5 (some 84) (v := ?_) rfl (by kernel_rfl) (by kernel_rfl) (by kernel_rfl) (by kernel_rfl) (fun _ _ _ h => h) (Or.inl ⟨by kernel_rfl, ?hy⟩) (by assumption) ?_
        case hy =>
          intro w' hSw
          try dsimp only at hSw
          first
            | (go_simp; done)
            | (go_simp; with_reducible rfl)
        simp only [Act.put, List.setIfInBounds_toArray, List.set_cons_zero, List.set_cons_succ]
        refine wpAnyH_ready (rs := [6]) (by kernel_rfl) (by simp) ?_
        refine AllReadyH.cons rfl (fun K hK => ?_) AllReadyH.nil
        rw [if_pos (by kernel_rfl)]
        go_simp
        refine (bytesr_any q w9.drew (by have := Hq.out.2; have := Hln.out; omega)).mono ?_
        rintro r w10 ⟨rfl, hb10⟩
        have hq10 := (Below.refl w9.heap.size w9).drew.trans hb10
        have HO10 := Lib.hid (own_below HO9.out hq10); have HB10 := Lib.hid (HB9.out.below hq10); have Hb10 := Lib.hid (Hb9.out.trans (hq10.mono Hb9.out.size)); have Hs10 := Lib.hid (sig_below HS9.out hq10)
        clear hq10 hb10
        refine hK.out _ _ Hs10.out (fun _ => ?_)
        clear hK K
        refine takeH 7 (some 86) (v := ?_) rfl (by kernel_rfl) (by kernel_rfl) (by kernel_rfl) (by kernel_rfl) (fun _ _ _ h => h) (Or.inl ⟨by kernel_rfl, ?hy⟩) (by assumption) ?_
        case hy =>
          intro w' hSw
          try dsimp only at hSw
          first
            | (go_simp; done)
            | (go_simp; with_reducible rfl)
        simp only [Act.put, List.setIfInBounds_toArray, List.set_cons_zero, List.set_cons_succ]
        refine takeH 8 (some 87) (v := ?_) rfl (by kernel_rfl) (by kernel_rfl) (by kernel_rfl) (by kernel_rfl) (fun _ _ _ h => h) (Or.inl ⟨by kernel_rfl, ?hy⟩) (by assumption) ?_
        case hy =>
          intro w' hSw
          try dsimp only at hSw
          first
            | (go_simp; done)
            | (go_simp; with_reducible rfl)
        simp only [Act.put, List.setIfInBounds_toArray, List.set_cons_zero, List.set_cons_succ]
        refine wpAnyH_done (by kernel_rfl) ?_ _
        go_wp2
        go_roundw
        case rel =>
          refine ⟨k + 1, A2, n2, c2, hlt, rfl, by go_num, ?_, ?_, Hb10⟩
          · rw [Htk.out]; exact HO10
          · rw [Htk.out]; exact HB10
        case measure => simp [Lib.intOf]; omega
    · have hkn : k = n := by omega
      subst hkn
      have hd1 : decide ((k : Int) < (k : Int)) = false := by simp
      clear hlt
      go_wp2
      have ht : l.take k = l := List.take_of_length_le (by have := Hl.out; omega)
      refine bodyPost_ret (v := .tuple #[.pointer (some ⟨w.heap.size + 1, 0, none⟩), .slice A' n' c', .bool true]) (by simp [results, Try.results11, go_sem]) rfl ⟨A', n', c', rfl, ?_, ?_, Hb.out⟩
      · have := HO.out; rwa [ht] at this
      · have := HB.out; rwa [ht] at this
end Go.Proofs.Ytepdinfopcohiaa
