/- The walk of NotaryHolds: what was signed verifies for good, and nothing else. Condition: bounds on the list. -/
import Derived.Test.YtepdinfopcohiaaNoK
import Derived.Test.YtepdinfopcohiaaNoD
namespace Go.Proofs.Ytepdinfopcohiaa
open Go.RowKit Go.Lib


/-- A signature of an entry of a book verifies for that entry alone. -/
theorem ver_same {W : List Nu} {a e : Nu} {qa q : Nat} (hW : ∀ x ∈ W, x.ok) (hao : a.ok) (ha : posN W a = some qa) (he : posN W e = some q) : verE (W.map Nu.en) a.en q = sameNu a e := by
  unfold verE
  rw [posN_en hW hao, ha]
  cases hs : sameNu a e with
  | true =>
    rw [sameNu_iff] at hs
    subst hs
    rw [ha] at he
    injection he with he
    subst he
    simp
  | false =>
    have hne : qa ≠ q := by
      rintro rfl
      rw [sameNu_iff.2 (posN_inj ha he)] at hs
      simp at hs
    simp [hne]
theorem cells4 {w w' : World} {B b i0 i1 i2 i3 : Nat} {v0 v1 v2 v3 : Value} (h : (w.cell? ⟨b, i0, none⟩ = some v0 ∧ w.cell? ⟨b, i1, none⟩ = some v1) ∧ w.cell? ⟨b, i2, none⟩ = some v2 ∧ w.cell? ⟨b, i3, none⟩ = some v3) (hb : Below B w w') (hl : b < B) :
    (w'.cell? ⟨b, i0, none⟩ = some v0 ∧ w'.cell? ⟨b, i1, none⟩ = some v1) ∧ w'.cell? ⟨b, i2, none⟩ = some v2 ∧ w'.cell? ⟨b, i3, none⟩ = some v3 :=
  ⟨⟨cell_kept h.1.1 hb hl, cell_kept h.1.2 hb hl⟩, cell_kept h.2.1 hb hl, cell_kept h.2.2 hb hl⟩
theorem sig_num {q : Nat} (h : q < 65536) : q % 256 + q / 256 % 256 * 256 = q := by omega
theorem posN_bound {W : List Nu} {e : Nu} {q : Nat} (h : posN W e = some q) : q < W.length := (posN_lt h).1
theorem signN_have {W : List Nu} {e : Nu} {q : Nat} (h : posN W e = some q) : signN W e = (W, q) := by unfold signN; rw [h]
set_option maxRecDepth 100000 in
set_option maxHeartbeats 4000000 in
theorem holds_any (l : List Nu) (A : Option Addr) (n c : Nat) (w : World) (hr : Rd w w.heap.size 2 A n (flatL l)) (hs : ∀ x ∈ l, x.small) :
    Calls Try.prog 3 #[.slice A n c] w fun r w' => r = .returned (.bool true) ∧ Below w.heap.size w w' := by
  have Hl := Lib.hid hr.llen
  by_cases hbig : 30 < n
  · have hd0 : decide ((30 : Int) < (n : Int)) = true := decide_eq_true (by omega)
    clear hbig
    go_enter Try.func3, Try.ntmps3
    go_wp2_with (go_at_call 10; refine (told_any w).mono ?_; rintro r w1 ⟨rfl, hb1⟩; have Hb1 := Lib.hid hb1; clear hb1)
    go_ret
    exact ⟨rfl, Hb1.out⟩
  have hd0 : decide ((30 : Int) < (n : Int)) = false := decide_eq_false (by omega)
  have hn : n ≤ 30 := by omega
  have Hr := Lib.hid hr
  have Hs := Lib.hid hs
  have hna := fun k => nil_sign (w.heap.size + 1) k
  have hme := fun k => meth_sign (w.heap.size + 1) k
  rw [types_many] at hna hme
  clear hbig hr hs
  go_enter Try.func3, Try.ntmps3
  go_wp2_with fail
  refine (book_any l A n c w Hr.out Hs.out (by omega)).mono ?_
  rintro r w1 ⟨A', n', c', rfl, hO1, hB1, hb1⟩
  have HB1 := Lib.hid hB1; have Hb1 := Lib.hid hb1
  have Hpos : Hid (∀ j, j < n → ∃ q, posN (bookN l) (l.getD j default) = some q) := fun j hj => by
    have ht : l.take n = l := List.take_of_length_le (by have := Hl.out; omega)
    have := bookN_has (l := l) (j := j) (by have := Hl.out; omega) n (by have := Hl.out; omega) hj
    rwa [ht] at this
  have Hok : Hid (∀ x ∈ bookN l, x.ok) := by
    have := bookN_ok Hs.out l.length (Nat.le_refl _)
    rwa [List.take_length] at this
  have Hln : Hid ((bookN l).length ≤ 30) := by
    have := bookN_len (l := l) l.length (Nat.le_refl _)
    rw [List.take_length] at this
    have := Hl.out
    show _ ≤ _
    omega
  clear hO1 hB1 hb1
  generalize bookN l = W at *
  go_wp2
  go_loopw [6] (fun i wr => ∃ (k : Nat), k ≤ n ∧ i = .int .i64 (k : Int) ∧ Hid (BookAt wr (w.heap.size + 2) (w.heap.size + 1) w.heap.size (W.map Nu.en)) ∧ Hid (Below w.heap.size w wr)) (fun i _ => n - (Lib.intOf i).toNat)
  case atStart => exact ⟨0, Nat.zero_le _, rfl, HB1, Hb1⟩
  case round =>
    obtain ⟨k, hk, rfl, HB, Hb⟩ := hrel
    by_cases hlt : k < n
    · have hkl : k < l.length := by have := Hl.out; omega
      obtain ⟨b, o, rfl, hbB, x0, x1⟩ := (Hr.out.below Hb.out (Nat.le_refl _)).le8 hlt
      have Hsm := Lib.hid (Hs.out _ (getD_memN hkl))
      obtain ⟨q, hq⟩ := Hpos.out k hlt
      generalize he : l.getD k default = e at *
      have Hq := Lib.hid hq
      have hd1 : decide ((k : Int) < (n : Int)) = true := decide_eq_true (by omega)
      have hi0 : (0 : Int) ≤ (k : Int) := by omega
      have hki : (k : Int) < (n : Int) := by omega
      have hk256 := Hsm.out.1; have hm256 := Hsm.out.2
      have hwk : IntKind.u64.wrap (e.k : Int) = (e.k : Int) := by rw [IntKind.wrap_u64]; omega
      have hwm : IntKind.u64.wrap (e.m : Int) = (e.m : Int) := by rw [IntKind.wrap_u64]; omega
      have He := Lib.hid he
      clear hkl hq he
      go_wp2_with fail
      refine (digest_any e.k wr (by omega)).mono ?_
      rintro r w2 ⟨rfl, hb2⟩
      have hbb2 := Hb.out.trans (hb2.mono Hb.out.size)
      have y1 := cell_kept x1 hb2 (by have := Hb.out.size; omega)
      have HB2 := Lib.hid (HB.out.below hb2); have Hb2 := Lib.hid hbb2
      clear x0 x1 hb2 hbb2 HB
      go_wp2_with fail
      refine (signer_any (D8.of e.k) (w.heap.size + 1) w2).mono ?_
      rintro r w3 ⟨rfl, hb3⟩
      have hbb3 := Hb2.out.trans (hb3.mono Hb2.out.size)
      have x1 := cell_kept y1 hb3 (by have := Hb2.out.size; omega)
      have HB3 := Lib.hid (HB2.out.below hb3); have Hb3 := Lib.hid hbb3
      clear y1 hb3 hbb3 HB2 Hb2
      go_wp2_with fail
      refine wp_region_held_drew (S := fun w' => w'.cell? ⟨b, o + k * 2 + 1, none⟩ = some (.int .u8 (e.m : Int))) (by kernel_rfl) x1 (fun hHeld => ?_)
      refine takeH 0 (some 41) (v := ?_) rfl (by kernel_rfl) (by kernel_rfl) (by kernel_rfl) (by kernel_rfl) (fun _ _ _ h => h) (Or.inl ⟨by kernel_rfl, ?hy⟩) (by assumption) ?_
      case hy =>
        intro w' hSw
        try dsimp only at hSw
        first
          | (go_simp; done)
          | (go_simp; with_reducible rfl)
      simp only [Act.put, List.setIfInBounds_toArray, List.set_cons_zero, List.set_cons_succ]
      refine takeH 1 (some 42) (v := ?_) rfl (by kernel_rfl) (by kernel_rfl) (by kernel_rfl) (by kernel_rfl) (fun _ _ _ h => h) (Or.inl ⟨by kernel_rfl, ?hy⟩) (by assumption) ?_
      case hy =>
        intro w' hSw
        try dsimp only at hSw
        first
          | (go_simp; done)
          | (go_simp; with_reducible rfl)
      simp only [Act.put, List.setIfInBounds_toArray, List.set_cons_zero, List.set_cons_succ]
      refine takeH 2 (some 43) (v := ?_) rfl (by kernel_rfl) (by kernel_rfl) (by kernel_rfl) (by kernel_rfl) (fun _ _ _ h => h) (Or.inl ⟨by kernel_rfl, ?hy⟩) (by assumption) ?_
      case hy =>
        intro w' hSw
        try dsimp only at hSw
        first
          | (go_simp; done)
          | (go_simp; with_reducible rfl)
      simp only [Act.put, List.setIfInBounds_toArray, List.set_cons_zero, List.set_cons_succ]
      refine takeH 3 (some 44) (v := ?_) rfl (by kernel_rfl) (by kernel_rfl) (by kernel_rfl) (by kernel_rfl) (fun _ _ _ h => h) (Or.inl ⟨by kernel_rfl, ?hy⟩) (by assumption) ?_
      case hy =>
        intro w' hSw
        try dsimp only at hSw
        first
          | (go_simp; done)
          | (go_simp; with_reducible rfl)
      simp only [Act.put, List.setIfInBounds_toArray, List.set_cons_zero, List.set_cons_succ]
      refine takeH 4 (some 45) (v := ?_) rfl (by kernel_rfl) (by kernel_rfl) (by kernel_rfl) (by kernel_rfl) (fun _ _ _ h => h) (Or.inl ⟨by kernel_rfl, ?hy⟩) (by assumption) ?_
      case hy =>
        intro w' hSw
        try dsimp only at hSw
        first
          | (go_simp; done)
          | (go_simp; with_reducible rfl)
      simp only [Act.put, List.setIfInBounds_toArray, List.set_cons_zero, List.set_cons_succ]
      refine takeH 5 (some 46) (v := ?_) rfl (by kernel_rfl) (by kernel_rfl) (by kernel_rfl) (by kernel_rfl) (fun _ _ _ h => h) (Or.inl ⟨by kernel_rfl, ?hy⟩) (by assumption) ?_
      case hy =>
        intro w' hSw
        try dsimp only at hSw
        first
          | (go_simp; done)
          | (go_simp; with_reducible rfl)
      simp only [Act.put, List.setIfInBounds_toArray, List.set_cons_zero, List.set_cons_succ]
      refine takeH 6 (some 47) (v := ?_) rfl (by kernel_rfl) (by kernel_rfl) (by kernel_rfl) (by kernel_rfl) (fun _ _ _ h => h) (Or.inl ⟨by kernel_rfl, ?hy⟩) (by assumption) ?_
      case hy =>
        intro w' hSw
        try dsimp only at hSw
        first
          | (go_simp; done)
          | (go_simp; with_reducible rfl)
      simp only [Act.put, List.setIfInBounds_toArray, List.set_cons_zero, List.set_cons_succ]
      refine takeH 8 (some 49) (v := ?_) rfl (by kernel_rfl) (by kernel_rfl) (by kernel_rfl) (by kernel_rfl) (fun _ _ _ h => h) (Or.inl ⟨by kernel_rfl, ?hy⟩) (by assumption) ?_
      case hy =>
        intro w' hSw
        try dsimp only at hSw
        first
          | (go_simp; done)
          | (go_simp; with_reducible rfl)
      simp only [Act.put, List.setIfInBounds_toArray, List.set_cons_zero, List.set_cons_succ]
      refine takeH 9 (some 50) (v := ?_) rfl (by kernel_rfl) (by kernel_rfl) (by kernel_rfl) (by kernel_rfl) (fun _ _ _ h => h) (Or.inl ⟨by kernel_rfl, ?hy⟩) (by assumption) ?_
      case hy =>
        intro w' hSw
        try dsimp only at hSw
        first
          | (go_simp; done)
          | (go_simp; with_reducible rfl)
      simp only [Act.put, List.setIfInBounds_toArray, List.set_cons_zero, List.set_cons_succ]
      refine takeH 10 (some 51) (v := ?_) rfl (by kernel_rfl) (by kernel_rfl) (by kernel_rfl) (by kernel_rfl) (fun _ _ _ h => h) (Or.inl ⟨by kernel_rfl, ?hy⟩) (by assumption) ?_
      case hy =>
        intro w' hSw
        try dsimp only at hSw
        first
          | (go_simp; done)
          | (go_simp; with_reducible rfl)
      simp only [Act.put, List.setIfInBounds_toArray, List.set_cons_zero, List.set_cons_succ]
      refine wpAnyH_ready (rs := [7]) (by kernel_rfl) (by simp) ?_
      refine AllReadyH.cons rfl (fun K hK => ?_) AllReadyH.nil
      rw [if_pos (by kernel_rfl)]
      go_simp
      refine (digest_any e.m w3.drew (by omega)).mono ?_
      rintro r w7 ⟨rfl, hb7⟩
      have hq7 := (Below.refl w3.heap.size w3).drew.trans hb7
      have z1 := cell_kept x1 hq7 (by have := Hb3.out.size; omega)
      have HB7 := Lib.hid (HB3.out.below hq7); have Hb7 := Lib.hid (Hb3.out.trans (hq7.mono Hb3.out.size))
      clear hb7 hq7
      refine hK.out _ _ z1 (fun _ => ?_)
      clear hK K
      refine wpAnyH_ready (rs := [11]) (by kernel_rfl) (by simp) ?_
      refine AllReadyH.cons rfl (fun K hK => ?_) AllReadyH.nil
      rw [if_pos (by kernel_rfl)]
      go_simp
      refine (wsign_any _ _ _ _ (D8.of e.k) (D8.of e.m) w7 HB7.out (d8_ok _) (d8_ok _) (by rw [List.length_map]; have := Hln.out; omega)).mono ?_
      rintro r w8 ⟨g, rfl, h81, h82, h83, h84⟩
      have hse := sign_en (l := W) (e := e) Hok.out Hsm.out.ok
      rw [signN_have Hq.out] at hse
      rw [show (⟨D8.of e.k, D8.of e.m⟩ : En) = e.en from rfl, hse] at h82 h83
      have hq8 := h84.below (B := w.heap.size) (by omega) (Nat.le_refl _)
      have HS8 := Lib.hid h82; have HB8 := Lib.hid h83; have Hb8 := Lib.hid (Hb7.out.trans hq8)
      have v1 := cell_kept z1 hq8 (by omega)
      clear hse h81 h82 h83 h84 hq8 z1
      refine hK.out _ _ v1 (fun _ => ?_)
      clear hK K
      refine takeH 12 (some 40) (v := ?_) rfl (by kernel_rfl) (by kernel_rfl) (by kernel_rfl) (by kernel_rfl) (fun _ _ _ h => h) (Or.inl ⟨by kernel_rfl, ?hy⟩) (by assumption) ?_
      case hy =>
        intro w' hSw
        try dsimp only at hSw
        first
          | (go_simp; done)
          | (go_simp; with_reducible rfl)
      simp only [Act.put, List.setIfInBounds_toArray, List.set_cons_zero, List.set_cons_succ]
      refine takeH 13 (some 53) (v := ?_) rfl (by kernel_rfl) (by kernel_rfl) (by kernel_rfl) (by kernel_rfl) (fun _ _ _ h => h) (Or.inl ⟨by kernel_rfl, ?hy⟩) (by assumption) ?_
      case hy =>
        intro w' hSw
        try dsimp only at hSw
        first
          | (go_simp; done)
          | (go_simp; with_reducible rfl)
      simp only [Act.put, List.setIfInBounds_toArray, List.set_cons_zero, List.set_cons_succ]
      refine takeH 14 (some 54) (v := ?_) rfl (by kernel_rfl) (by kernel_rfl) (by kernel_rfl) (by kernel_rfl) (fun _ _ _ h => h) (Or.inl ⟨by kernel_rfl, ?hy⟩) (by assumption) ?_
      case hy =>
        intro w' hSw
        try dsimp only at hSw
        first
          | (go_simp; done)
          | (go_simp; with_reducible rfl)
      simp only [Act.put, List.setIfInBounds_toArray, List.set_cons_zero, List.set_cons_succ]
      refine takeH 15 (some 8) (v := ?_) rfl (by kernel_rfl) (by kernel_rfl) (by kernel_rfl) (by kernel_rfl) (fun _ _ _ h => h) (Or.inl ⟨by kernel_rfl, ?hy⟩) (by assumption) ?_
      case hy =>
        intro w' hSw
        try dsimp only at hSw
        first
          | (go_simp; done)
          | (go_simp; with_reducible rfl)
      simp only [Act.put, List.setIfInBounds_toArray, List.set_cons_zero, List.set_cons_succ]
      refine takeH 16 (some 9) (v := ?_) rfl (by kernel_rfl) (by kernel_rfl) (by kernel_rfl) (by kernel_rfl) (fun _ _ _ h => h) (Or.inl ⟨by kernel_rfl, ?hy⟩) (by assumption) ?_
      case hy =>
        intro w' hSw
        try dsimp only at hSw
        first
          | (go_simp; done)
          | (go_simp; with_reducible rfl)
      simp only [Act.put, List.setIfInBounds_toArray, List.set_cons_zero, List.set_cons_succ]
      refine wpAnyH_done (by kernel_rfl) ?_ _
      clear v1 x1
      go_wp2
      obtain ⟨wo, rfl⟩ : ∃ wo : World, wo = wr := ⟨_, rfl⟩
      go_loopw [10] (fun i wr => ∃ (j : Nat), j ≤ n ∧ i = .int .i64 (j : Int) ∧ Hid (BookAt wr (w.heap.size + 2) (w.heap.size + 1) w.heap.size (W.map Nu.en)) ∧ Hid (SigAt wr g q) ∧ Hid (Below w.heap.size w wr)) (fun i _ => n - (Lib.intOf i).toNat)
      case atStart => exact ⟨0, Nat.zero_le _, rfl, HB8, HS8, Hb8⟩
      case round =>
        obtain ⟨j, hj, rfl, HBj, HSj, Hbj⟩ := hrel
        by_cases hjt : j < n
        · have hjl : j < l.length := by have := Hl.out; omega
          obtain ⟨ba, oa, eba, _, x0, x1⟩ := (Hr.out.below Hbj.out (Nat.le_refl _)).le8 hjt
          obtain ⟨bb, ob, ebb, _, y0, y1⟩ := (Hr.out.below Hbj.out (Nat.le_refl _)).le8 hlt
          simp only [Option.some.injEq, Addr.mk.injEq, and_true] at eba ebb
          obtain ⟨rfl, rfl⟩ := eba
          obtain ⟨rfl, rfl⟩ := ebb
          rw [He.out] at y0 y1
          have Hsa := Lib.hid (Hs.out _ (getD_memN hjl))
          obtain ⟨qa, hqa⟩ := Hpos.out j hjt
          generalize l.getD j default = a at *
          have Hver := Lib.hid (ver_same Hok.out Hsa.out.ok hqa Hq.out)
          have hsame := same_int a e
          have hd2 : decide ((j : Int) < (n : Int)) = true := decide_eq_true (by omega)
          have hj0 : (0 : Int) ≤ (j : Int) := by omega
          have hji : (j : Int) < (n : Int) := by omega
          have ha256 := Hsa.out.1; have hb256 := Hsa.out.2
          have hwa : IntKind.u64.wrap (a.k : Int) = (a.k : Int) := by rw [IntKind.wrap_u64]; omega
          have hwb : IntKind.u64.wrap (a.m : Int) = (a.m : Int) := by rw [IntKind.wrap_u64]; omega
          have heq := eql_le
          clear hjl hqa
          go_wp2_with fail
          refine wp_region_held_drew (S := fun w' => (w'.cell? ⟨b, o + j * 2, none⟩ = some (.int .u8 (a.k : Int)) ∧ w'.cell? ⟨b, o + j * 2 + 1, none⟩ = some (.int .u8 (a.m : Int))) ∧ w'.cell? ⟨b, o + k * 2, none⟩ = some (.int .u8 (e.k : Int)) ∧ w'.cell? ⟨b, o + k * 2 + 1, none⟩ = some (.int .u8 (e.m : Int))) (by kernel_rfl) ⟨⟨x0, x1⟩, y0, y1⟩ (fun hHeld => ?_)
          refine takeH 0 (some 63) (v := ?_) rfl (by kernel_rfl) (by kernel_rfl) (by kernel_rfl) (by kernel_rfl) (fun _ _ _ h => h) (Or.inl ⟨by kernel_rfl, ?hy⟩) (by assumption) ?_
          case hy =>
            intro w' hSw
            try dsimp only at hSw
            first
              | (go_simp; done)
              | (go_simp; with_reducible rfl)
          simp only [Act.put, List.setIfInBounds_toArray, List.set_cons_zero, List.set_cons_succ]
          refine takeH 1 (some 64) (v := ?_) rfl (by kernel_rfl) (by kernel_rfl) (by kernel_rfl) (by kernel_rfl) (fun _ _ _ h => h) (Or.inl ⟨by kernel_rfl, ?hy⟩) (by assumption) ?_
          case hy =>
            intro w' hSw
            try dsimp only at hSw
            first
              | (go_simp; done)
              | (go_simp; with_reducible rfl)
          simp only [Act.put, List.setIfInBounds_toArray, List.set_cons_zero, List.set_cons_succ]
          refine takeH 2 (some 65) (v := ?_) rfl (by kernel_rfl) (by kernel_rfl) (by kernel_rfl) (by kernel_rfl) (fun _ _ _ h => h) (Or.inl ⟨by kernel_rfl, ?hy⟩) (by assumption) ?_
          case hy =>
            intro w' hSw
            try dsimp only at hSw
            first
              | (go_simp; done)
              | (go_simp; with_reducible rfl)
          simp only [Act.put, List.setIfInBounds_toArray, List.set_cons_zero, List.set_cons_succ]
          refine takeH 3 (some 66) (v := ?_) rfl (by kernel_rfl) (by kernel_rfl) (by kernel_rfl) (by kernel_rfl) (fun _ _ _ h => h) (Or.inl ⟨by kernel_rfl, ?hy⟩) (by assumption) ?_
          case hy =>
            intro w' hSw
            try dsimp only at hSw
            first
              | (go_simp; done)
              | (go_simp; with_reducible rfl)
          simp only [Act.put, List.setIfInBounds_toArray, List.set_cons_zero, List.set_cons_succ]
          refine takeH 4 (some 67) (v := ?_) rfl (by kernel_rfl) (by kernel_rfl) (by kernel_rfl) (by kernel_rfl) (fun _ _ _ h => h) (Or.inl ⟨by kernel_rfl, ?hy⟩) (by assumption) ?_
          case hy =>
            intro w' hSw
            try dsimp only at hSw
            first
              | (go_simp; done)
              | (go_simp; with_reducible rfl)
          simp only [Act.put, List.setIfInBounds_toArray, List.set_cons_zero, List.set_cons_succ]
          refine takeH 5 (some 68) (v := ?_) rfl (by kernel_rfl) (by kernel_rfl) (by kernel_rfl) (by kernel_rfl) (fun _ _ _ h => h) (Or.inl ⟨by kernel_rfl, ?hy⟩) (by assumption) ?_
          case hy =>
            intro w' hSw
            try dsimp only at hSw
            first
              | (go_simp; done)
              | (go_simp; with_reducible rfl)
          simp only [Act.put, List.setIfInBounds_toArray, List.set_cons_zero, List.set_cons_succ]
          refine takeH 6 (some 69) (v := ?_) rfl (by kernel_rfl) (by kernel_rfl) (by kernel_rfl) (by kernel_rfl) (fun _ _ _ h => h) (Or.inl ⟨by kernel_rfl, ?hy⟩) (by assumption) ?_
          case hy =>
            intro w' hSw
            try dsimp only at hSw
            first
              | (go_simp; done)
              | (go_simp; with_reducible rfl)
          simp only [Act.put, List.setIfInBounds_toArray, List.set_cons_zero, List.set_cons_succ]
          refine takeH 8 (some 71) (v := ?_) rfl (by kernel_rfl) (by kernel_rfl) (by kernel_rfl) (by kernel_rfl) (fun _ _ _ h => h) (Or.inl ⟨by kernel_rfl, ?hy⟩) (by assumption) ?_
          case hy =>
            intro w' hSw
            try dsimp only at hSw
            first
              | (go_simp; done)
              | (go_simp; with_reducible rfl)
          simp only [Act.put, List.setIfInBounds_toArray, List.set_cons_zero, List.set_cons_succ]
          refine takeH 9 (some 72) (v := ?_) rfl (by kernel_rfl) (by kernel_rfl) (by kernel_rfl) (by kernel_rfl) (fun _ _ _ h => h) (Or.inl ⟨by kernel_rfl, ?hy⟩) (by assumption) ?_
          case hy =>
            intro w' hSw
            try dsimp only at hSw
            first
              | (go_simp; done)
              | (go_simp; with_reducible rfl)
          simp only [Act.put, List.setIfInBounds_toArray, List.set_cons_zero, List.set_cons_succ]
          refine takeH 10 (some 73) (v := ?_) rfl (by kernel_rfl) (by kernel_rfl) (by kernel_rfl) (by kernel_rfl) (fun _ _ _ h => h) (Or.inl ⟨by kernel_rfl, ?hy⟩) (by assumption) ?_
          case hy =>
            intro w' hSw
            try dsimp only at hSw
            first
              | (go_simp; done)
              | (go_simp; with_reducible rfl)
          simp only [Act.put, List.setIfInBounds_toArray, List.set_cons_zero, List.set_cons_succ]
          refine takeH 11 (some 74) (v := ?_) rfl (by kernel_rfl) (by kernel_rfl) (by kernel_rfl) (by kernel_rfl) (fun _ _ _ h => h) (Or.inl ⟨by kernel_rfl, ?hy⟩) (by assumption) ?_
          case hy =>
            intro w' hSw
            try dsimp only at hSw
            first
              | (go_simp; done)
              | (go_simp; with_reducible rfl)
          simp only [Act.put, List.setIfInBounds_toArray, List.set_cons_zero, List.set_cons_succ]
          refine takeH 12 (some 75) (v := ?_) rfl (by kernel_rfl) (by kernel_rfl) (by kernel_rfl) (by kernel_rfl) (fun _ _ _ h => h) (Or.inl ⟨by kernel_rfl, ?hy⟩) (by assumption) ?_
          case hy =>
            intro w' hSw
            try dsimp only at hSw
            first
              | (go_simp; done)
              | (go_simp; with_reducible rfl)
          simp only [Act.put, List.setIfInBounds_toArray, List.set_cons_zero, List.set_cons_succ]
          refine takeH 13 (some 76) (v := ?_) rfl (by kernel_rfl) (by kernel_rfl) (by kernel_rfl) (by kernel_rfl) (fun _ _ _ h => h) (Or.inl ⟨by kernel_rfl, ?hy⟩) (by assumption) ?_
          case hy =>
            intro w' hSw
            try dsimp only at hSw
            first
              | (go_simp; done)
              | (go_simp; with_reducible rfl)
          simp only [Act.put, List.setIfInBounds_toArray, List.set_cons_zero, List.set_cons_succ]
          refine takeH 15 (some 78) (v := ?_) rfl (by kernel_rfl) (by kernel_rfl) (by kernel_rfl) (by kernel_rfl) (fun _ _ _ h => h) (Or.inl ⟨by kernel_rfl, ?hy⟩) (by assumption) ?_
          case hy =>
            intro w' hSw
            try dsimp only at hSw
            first
              | (go_simp; done)
              | (go_simp; with_reducible rfl)
          simp only [Act.put, List.setIfInBounds_toArray, List.set_cons_zero, List.set_cons_succ]
          refine takeH 17 (some 80) (v := ?_) rfl (by kernel_rfl) (by kernel_rfl) (by kernel_rfl) (by kernel_rfl) (fun _ _ _ h => h) (Or.inl ⟨by kernel_rfl, ?hy⟩) (by assumption) ?_
          case hy =>
            intro w' hSw
            try dsimp only at hSw
            first
              | (go_simp; done)
              | (go_simp; with_reducible rfl)
          simp only [Act.put, List.setIfInBounds_toArray, List.set_cons_zero, List.set_cons_succ]
          refine takeH 18 (some 81) (v := ?_) rfl (by kernel_rfl) (by kernel_rfl) (by kernel_rfl) (by kernel_rfl) (fun _ _ _ h => h) (Or.inl ⟨by kernel_rfl, ?hy⟩) (by assumption) ?_
          case hy =>
            intro w' hSw
            try dsimp only at hSw
            first
              | (go_simp; done)
              | (go_simp; with_reducible rfl)
          simp only [Act.put, List.setIfInBounds_toArray, List.set_cons_zero, List.set_cons_succ]
          refine takeH 19 (some 82) (v := ?_) rfl (by kernel_rfl) (by kernel_rfl) (by kernel_rfl) (by kernel_rfl) (fun _ _ _ h => h) (Or.inl ⟨by kernel_rfl, ?hy⟩) (by assumption) ?_
          case hy =>
            intro w' hSw
            try dsimp only at hSw
            first
              | (go_simp; done)
              | (go_simp; with_reducible rfl)
          simp only [Act.put, List.setIfInBounds_toArray, List.set_cons_zero, List.set_cons_succ]
          refine takeH 20 (some 83) (v := ?_) rfl (by kernel_rfl) (by kernel_rfl) (by kernel_rfl) (by kernel_rfl) (fun _ _ _ h => h) (Or.inl ⟨by kernel_rfl, ?hy⟩) (by assumption) ?_
          case hy =>
            intro w' hSw
            try dsimp only at hSw
            first
              | (go_simp; done)
              | (go_simp; with_reducible rfl)
          simp only [Act.put, List.setIfInBounds_toArray, List.set_cons_zero, List.set_cons_succ]
          refine takeH 21 (some 84) (v := ?_) rfl (by kernel_rfl) (by kernel_rfl) (by kernel_rfl) (by kernel_rfl) (fun _ _ _ h => h) (Or.inl ⟨by kernel_rfl, ?hy⟩) (by assumption) ?_
          case hy =>
            intro w' hSw
            try dsimp only at hSw
            first
              | (go_simp; done)
              | (go_simp; with_reducible rfl)
          simp only [Act.put, List.setIfInBounds_toArray, List.set_cons_zero, List.set_cons_succ]
          refine takeH 22 (some 85) (v := ?_) rfl (by kernel_rfl) (by kernel_rfl) (by kernel_rfl) (by kernel_rfl) (fun _ _ _ h => h) (Or.inl ⟨by kernel_rfl, ?hy⟩) (by assumption) ?_
          case hy =>
            intro w' hSw
            try dsimp only at hSw
            first
              | (go_simp; done)
              | (go_simp; with_reducible rfl)
          simp only [Act.put, List.setIfInBounds_toArray, List.set_cons_zero, List.set_cons_succ]
          refine takeH 23 (some 86) (v := ?_) rfl (by kernel_rfl) (by kernel_rfl) (by kernel_rfl) (by kernel_rfl) (fun _ _ _ h => h) (Or.inl ⟨by kernel_rfl, ?hy⟩) (by assumption) ?_
          case hy =>
            intro w' hSw
            try dsimp only at hSw
            first
              | (go_simp; done)
              | (go_simp; with_reducible rfl)
          simp only [Act.put, List.setIfInBounds_toArray, List.set_cons_zero, List.set_cons_succ]
          refine takeH 24 (some 87) (v := ?_) rfl (by kernel_rfl) (by kernel_rfl) (by kernel_rfl) (by kernel_rfl) (fun _ _ _ h => h) (Or.inl ⟨by kernel_rfl, ?hy⟩) (by assumption) ?_
          case hy =>
            intro w' hSw
            try dsimp only at hSw
            first
              | (go_simp; done)
              | (go_simp; with_reducible rfl)
          simp only [Act.put, List.setIfInBounds_toArray, List.set_cons_zero, List.set_cons_succ]
          refine takeH 25 (some 88) (v := ?_) rfl (by kernel_rfl) (by kernel_rfl) (by kernel_rfl) (by kernel_rfl) (fun _ _ _ h => h) (Or.inl ⟨by kernel_rfl, ?hy⟩) (by assumption) ?_
          case hy =>
            intro w' hSw
            try dsimp only at hSw
            first
              | (go_simp; done)
              | (go_simp; with_reducible rfl)
          simp only [Act.put, List.setIfInBounds_toArray, List.set_cons_zero, List.set_cons_succ]
          refine wpAnyH_ready (rs := [7]) (by kernel_rfl) (by simp) ?_
          refine AllReadyH.cons rfl (fun K hK => ?_) AllReadyH.nil
          rw [if_pos (by kernel_rfl)]
          go_simp
          refine (digest_any a.k wr.drew (by omega)).mono ?_
          rintro r v1 ⟨rfl, hv1⟩
          have hq1 := (Below.refl wr.heap.size wr).drew.trans hv1
          have hS1 := cells4 ⟨⟨x0, x1⟩, y0, y1⟩ hq1 (by have := Hbj.out.size; omega)
          have HB1' := Lib.hid (HBj.out.below hq1); have HS1' := Lib.hid (sig_below HSj.out hq1); have Hb1' := Lib.hid (Hbj.out.trans (hq1.mono Hbj.out.size))
          clear hv1 hq1
          refine hK.out _ _ hS1 (fun _ => ?_)
          clear hK K
          refine wpAnyH_ready (rs := [14]) (by kernel_rfl) (by simp) ?_
          refine AllReadyH.cons rfl (fun K hK => ?_) AllReadyH.nil
          rw [if_pos (by kernel_rfl)]
          go_simp
          refine (digest_any a.m v1 (by omega)).mono ?_
          rintro r v2 ⟨rfl, hv2⟩
          have hS2 := cells4 hS1 hv2 (by have := Hb1'.out.size; omega)
          have HB2' := Lib.hid (HB1'.out.below hv2); have HS2' := Lib.hid (sig_below HS1'.out hv2); have Hb2' := Lib.hid (Hb1'.out.trans (hv2.mono Hb1'.out.size))
          clear hv2
          refine hK.out _ _ hS2 (fun _ => ?_)
          clear hK K
          refine wpAnyH_ready (rs := [16]) (by kernel_rfl) (by simp) ?_
          refine AllReadyH.cons rfl (fun K hK => ?_) AllReadyH.nil
          rw [if_pos (by kernel_rfl)]
          go_simp
          refine (verify_two _ _ _ _ ⟨D8.of a.k, D8.of a.m⟩ g 0 2 (q % 256) (q / 256 % 256) v2 HB2'.out ⟨d8_ok _, d8_ok _⟩ (by rw [List.length_map]; have := Hln.out; omega) (by omega) (by omega) (block_lt HS2'.out) (block_cell HS2'.out 0) (block_cell HS2'.out 1)).mono ?_
          rintro r v3 ⟨rfl, hv3⟩
          rw [sig_num (by have := posN_bound Hq.out; have := Hln.out; omega), show (⟨D8.of a.k, D8.of a.m⟩ : En) = a.en from rfl, Hver.out]
          have hS3 := cells4 hS2 hv3 (by have := Hb2'.out.size; omega)
          have HB3' := Lib.hid (HB2'.out.below hv3); have HS3' := Lib.hid (sig_below HS2'.out hv3); have Hb3' := Lib.hid (Hb2'.out.trans (hv3.mono Hb2'.out.size))
          clear hv3
          refine hK.out _ _ hS3 (fun _ => ?_)
          clear hK K
          try rw [hsame]
          clear hsame
          generalize sameNu a e = sm at *
          have hx : (sm != sm) = false := by simp
          refine takeH 26 (some 89) (v := ?_) rfl (by kernel_rfl) (by kernel_rfl) (by kernel_rfl) (by kernel_rfl) (fun _ _ _ h => h) (Or.inl ⟨by kernel_rfl, ?hy⟩) (by assumption) ?_
          case hy =>
            intro w' hSw
            try dsimp only at hSw
            first
              | (go_simp; done)
              | (go_simp; with_reducible rfl)
          simp only [Act.put, List.setIfInBounds_toArray, List.set_cons_zero, List.set_cons_succ]
          refine wpAnyH_done (by kernel_rfl) ?_ _
          clear x0 x1 y0 y1 hS1 hS2 hS3
          go_wp2
          go_roundw
          case rel => exact ⟨j + 1, hjt, by go_num, HB3', HS3', Hb3'⟩
          case measure => simp [Lib.intOf]; omega
        · have hjn : j = n := by omega
          subst hjn
          have hd2 : decide ((j : Int) < (j : Int)) = false := by simp
          go_wp2
          go_roundw
          case rel => exact ⟨k + 1, hlt, by go_num, HBj, Hbj⟩
          case measure => simp [Lib.intOf]; omega
    · have hkn : k = n := by omega
      subst hkn
      have hd1 : decide ((k : Int) < (k : Int)) = false := by simp
      clear hlt
      go_wp2_with (go_at_call 10; refine (told_any wr).mono ?_; rintro r w9 ⟨rfl, hb9⟩; have Hb9 := Lib.hid (Hb.out.trans (hb9.mono Hb.out.size)); clear hb9)
      go_ret
      exact ⟨rfl, Hb9.out⟩
end Go.Proofs.Ytepdinfopcohiaa
