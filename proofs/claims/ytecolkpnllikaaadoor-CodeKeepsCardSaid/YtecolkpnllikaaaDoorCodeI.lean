/- The walk of the reference's Right: whether an instruction may be. Condition: none. -/
import Derived.Test.YtecolkpnllikaaaDoorCodeH
import Derived.Test.YtecolkpnllikaaaDoorCodeC2
namespace Go.Proofs.YtecolkpnllikaaaDoor
open Go.RowKit Go.Lib

theorem number1_any (n : Int) (w : World) : Calls Tryd.prog 42 #[.int .i64 n] w fun e w' => e = .returned (.bool (inR n)) ∧ w = w' := by
  by_cases h0 : -2147483648 ≤ n
  · by_cases h1 : n ≤ 2147483647
    · have H := Lib.hid (inR_yes h0 h1)
      go_enter Tryd.func42, Tryd.ntmps42
      go_wp2
      go_ret
      exact ⟨ret_bool H.out.symm, rfl⟩
    · have H := Lib.hid (inR_no (.inr (by omega : 2147483647 < n)))
      have hd : decide (n ≤ 2147483647) = false := decide_eq_false h1
      clear h1
      go_enter Tryd.func42, Tryd.ntmps42
      go_wp2
      go_ret
      exact ⟨ret_bool H.out.symm, rfl⟩
  · have H := Lib.hid (inR_no (.inl (by omega : n < -2147483648)))
    have hd : decide (-2147483648 ≤ n) = false := decide_eq_false h0
    clear h0
    go_enter Tryd.func42, Tryd.ntmps42
    go_wp2
    go_ret
    exact ⟨ret_bool H.out.symm, rfl⟩

theorem texts_at {l : List (List UInt8)} {k : Nat} {u : Value} (h : (l.map fun x => Value.string ⟨x.toArray⟩)[k]? = some u) : u = .string ⟨(l.getD k []).toArray⟩ := by
  simp only [List.getElem?_map, Option.map_eq_some_iff] at h
  obtain ⟨x, hx, rfl⟩ := h
  simp [List.getD_eq_getElem?_getD, hx]
set_option maxRecDepth 100000 in
theorem hasr_any (op : Int) (w : World) :
    Calls Tryd.prog 41 #[.int .i64 op] w fun e w' => e = .returned (.string (hasOf op)) ∧ Below w.heap.size w w' := by
  by_cases h : 0 ≤ op ∧ op < 22
  · obtain ⟨h0, h1⟩ := h
    obtain ⟨k, rfl⟩ := Int.eq_ofNat_of_zero_le h0
    have b0 : decide ((k : Int) < 0) = false := decide_eq_false (by omega)
    have b1 : decide (21 < (k : Int)) = false := decide_eq_false (by omega)
    have hk : k < 22 := by omega
    have hn : hasOf (k : Int) = ⟨(hasL.getD k []).toArray⟩ := by simp [hasOf, hasB, isB_yes h0 h1]
    have hr := Rd.newA (n := 22) (sz := 1) (xs := hasL.map fun x => Value.string ⟨x.toArray⟩) w 9 _ rfl rfl
    obtain ⟨bk, o, u, hA, hlt, hu, hcell⟩ := hr.at_ hk (show 0 < 1 by omega)
    simp only [Option.some.injEq, Addr.mk.injEq, and_true] at hA
    obtain ⟨rfl, rfl⟩ := hA
    simp only [Nat.mul_one, Nat.add_zero, Nat.zero_add] at hu hcell
    obtain rfl := texts_at hu
    rw [← hn] at hcell
    generalize hS : hasOf (k : Int) = S at *
    simp only [List.map_cons, List.map_nil] at hcell
    clear hn h0 hu hr hS
    go_enter Tryd.func41, Tryd.ntmps41
    go_wp2
    go_ret
    exact ⟨rfl, (Below.refl _ _).alloc (Nat.le_refl _) _⟩
  · have hn : hasOf op = ⟨#[]⟩ := hasOf_no (isB_no (by omega))
    have Hn := Lib.hid hn; clear hn
    by_cases hl : op < 0
    · clear h
      go_enter Tryd.func41, Tryd.ntmps41
      go_wp2
      go_ret
      exact ⟨ret_str Hn.out.symm, Below.refl _ _⟩
    · have b0 : decide (op < 0) = false := decide_eq_false (by omega)
      have b1 : decide (21 < op) = true := decide_eq_true (by omega)
      clear h hl
      go_enter Tryd.func41, Tryd.ntmps41
      go_wp2
      go_ret
      exact ⟨ret_str Hn.out.symm, Below.refl _ _⟩

theorem chr_three {op : Int} {k : Nat} (h : k < (hasOf op).size) : chr op k = 119 ∨ chr op k = 112 ∨ chr op k = 110 := by
  by_cases hb : 0 ≤ op ∧ op < 22
  · obtain ⟨h0, h1⟩ := hb
    obtain ⟨j, rfl⟩ := Int.eq_ofNat_of_zero_le h0
    have hj : j < 22 := by omega
    have hl : k < (hasL.getD j []).length := by
      rw [hasOf, hasB, isB_yes h0 h1, if_pos rfl, Int.toNat_natCast] at h
      simpa [ByteArray.size] using h
    have all : ∀ j, j < 22 → ∀ x ∈ (hasL.getD j []), x = 119 ∨ x = 112 ∨ x = 110 := by decide
    have : chr (j : Int) k = (hasL.getD j [])[k] := by
      rw [chr, hasB, isB_yes h0 h1, if_pos rfl, Int.toNat_natCast, List.getD_eq_getElem?_getD, List.getElem?_eq_getElem hl]; rfl
    rw [this]
    exact all j hj _ (List.getElem_mem hl)
  · rw [hasOf_no (isB_no (by omega))] at h
    exact absurd h (by simp [ByteArray.size])

set_option maxRecDepth 100000 in
set_option maxHeartbeats 2000000 in
theorem rightr_yes (op a b c size words : Int) (w : World) (h0 : 0 ≤ op) (h1 : op < 22) :
    Calls Tryd.prog 24 #[.agg #[.int .i64 op, .int .i64 a, .int .i64 b, .int .i64 c], .int .i64 size, .int .i64 words] w fun e w' => e = .returned (.bool (rightB op a b c size words)) ∧ Below w.heap.size w w' := by
  have hB := isB_yes h0 h1
  have HB := Lib.hid hB
  have hsz := hasOf_size op
  have b0 : decide (op < 0) = false := decide_eq_false (by omega)
  have b1 : decide (21 < op) = false := decide_eq_false (by omega)
  clear hB
  go_enter Tryd.func24, Tryd.ntmps24
  go_wp2_with (first
    | (go_at_call 36; refine (threer_any _ _ _ _ _).mono ?_; rintro e w1 ⟨rfl, hb⟩; have hB1 := block_below (heap_alloc_new w _) hb (by simp); have HB1 := Lib.hid hB1; have c0 := block_cell hB1 0; have hz1 := block_lt hB1; have Hb1 := Lib.hid hb; clear hb hB1)
    | (go_at_call 41; refine (hasr_any _ _).mono ?_; rintro e w2 ⟨rfl, hb⟩; have HB2 := Lib.hid (block_below (block_alloc HB1.out _) hb (by simp; omega)); have HT2 := Lib.hid (block_below (heap_alloc_new w1 _) hb (by simp)); have Hb2 := Lib.hid (((((Below.refl _ _).alloc (Nat.le_refl _) _).trans (Hb1.out.mono (by simp))).alloc (by omega) _).trans (hb.mono (by simp; omega))); clear hb))
  clear c0
  go_loopw [9] (fun i wr => ∃ k : Nat, k ≤ 3 ∧ i = .int .i64 k ∧ (∀ j, j < k → okN op size words j (three a b c j) = true) ∧ wr.heap[w.heap.size]? = some (.cells #[.int .i64 op, .int .i64 a, .int .i64 b, .int .i64 c] 23) ∧ wr.heap[w1.heap.size]? = some (.cells #[.int .i64 a, .int .i64 b, .int .i64 c] 67) ∧ Below w.heap.size w wr) (fun i _ => 3 - (intOf i).toNat)
  case atStart => exact ⟨0, by omega, rfl, fun j hj => absurd hj (by omega), HB2.out, HT2.out, Hb2.out⟩
  case round =>
    obtain ⟨k, hk, rfl, hok, hbx, hth, hbel⟩ := hrel
    have Hok := Lib.hid hok; clear hok
    have c0 := block_cell hbx 0
    have c1 := block_cell hbx 1
    have c2 := block_cell hbx 2
    have c3 := block_cell hbx 3
    simp at c0 c1 c2 c3
    by_cases hlt : k < 3
    · have htc : wr.cell? ⟨w1.heap.size, k, none⟩ = some (.int .i64 (three a b c k)) := by
        rw [block_cell hth k]
        match k, hlt with
        | 0, _ => rfl
        | 1, _ => rfl
        | 2, _ => rfl
      generalize hn : three a b c k = n at *
      have hi0 : (0 : Int) ≤ (k : Int) := by omega
      have hi3 : (k : Int) < 3 := by omega
      by_cases hs : k < (hasOf op).size
      · have hi1 : (k : Int) < ((hasOf op).size : Int) := by omega
        have e1 := chr_is hs 119
        have e2 := chr_is hs 112
        have e3 := chr_is hs 110
        rcases chr_three hs with hw | hw | hw
        · rw [hw] at e1 e2 e3
          have t1 : (((((hasOf op)[k]'hs).toNat : Nat) : Int) == 119) = true := e1
          have t2 : (((((hasOf op)[k]'hs).toNat : Nat) : Int) == 112) = false := e2
          have t3 : (((((hasOf op)[k]'hs).toNat : Nat) : Int) == 110) = false := e3
          clear e1 e2 e3
          by_cases q0 : 0 ≤ n
          · have qd0 : decide (n < 0) = false := decide_eq_false (by omega)
            by_cases q1 : n < words
            ·
              have hk1 : okN op size words k (three a b c k) = true := by simp [okN, hs, hw, hn, q0, q1]
              have Hk := Lib.hid hk1; clear hk1
              have qd : decide (words ≤ n) = false := decide_eq_false (by omega)
              clear hw hn q0 q1
              go_wp2
              go_roundw
              case rel => exact ⟨k + 1, by omega, by go_num, snoc_ok Hok.out Hk.out, hbx, hth, hbel⟩
              case measure => simp [intOf]; omega
            ·
              have hk1 : okN op size words k (three a b c k) = false := by simp [okN, hs, hw, hn, q0, q1]
              have Hk := Lib.hid hk1; clear hk1
              have qd : decide (words ≤ n) = true := decide_eq_true (by omega)
              clear hw hn q0 q1
              go_wp2
              go_ret
              exact ⟨ret_bool (rightB_no hlt Hk.out).symm, hbel⟩
          ·
            have hk1 : okN op size words k (three a b c k) = false := by simp [okN, hs, hw, hn, q0]
            have Hk := Lib.hid hk1; clear hk1
            have qd0 : decide (n < 0) = true := decide_eq_true (by omega)
            clear hw hn q0
            go_wp2
            go_ret
            exact ⟨ret_bool (rightB_no hlt Hk.out).symm, hbel⟩
        · rw [hw] at e1 e2 e3
          have t1 : (((((hasOf op)[k]'hs).toNat : Nat) : Int) == 119) = false := e1
          have t2 : (((((hasOf op)[k]'hs).toNat : Nat) : Int) == 112) = true := e2
          have t3 : (((((hasOf op)[k]'hs).toNat : Nat) : Int) == 110) = false := e3
          clear e1 e2 e3
          by_cases q0 : 0 ≤ n
          · have qd0 : decide (n < 0) = false := decide_eq_false (by omega)
            by_cases q1 : n < size
            ·
              have hk1 : okN op size words k (three a b c k) = true := by simp [okN, hs, hw, hn, q0, q1]
              have Hk := Lib.hid hk1; clear hk1
              have qd : decide (size ≤ n) = false := decide_eq_false (by omega)
              clear hw hn q0 q1
              go_wp2
              go_roundw
              case rel => exact ⟨k + 1, by omega, by go_num, snoc_ok Hok.out Hk.out, hbx, hth, hbel⟩
              case measure => simp [intOf]; omega
            ·
              have hk1 : okN op size words k (three a b c k) = false := by simp [okN, hs, hw, hn, q0, q1]
              have Hk := Lib.hid hk1; clear hk1
              have qd : decide (size ≤ n) = true := decide_eq_true (by omega)
              clear hw hn q0 q1
              go_wp2
              go_ret
              exact ⟨ret_bool (rightB_no hlt Hk.out).symm, hbel⟩
          ·
            have hk1 : okN op size words k (three a b c k) = false := by simp [okN, hs, hw, hn, q0]
            have Hk := Lib.hid hk1; clear hk1
            have qd0 : decide (n < 0) = true := decide_eq_true (by omega)
            clear hw hn q0
            go_wp2
            go_ret
            exact ⟨ret_bool (rightB_no hlt Hk.out).symm, hbel⟩
        · rw [hw] at e1 e2 e3
          have t1 : (((((hasOf op)[k]'hs).toNat : Nat) : Int) == 119) = false := e1
          have t2 : (((((hasOf op)[k]'hs).toNat : Nat) : Int) == 112) = false := e2
          have t3 : (((((hasOf op)[k]'hs).toNat : Nat) : Int) == 110) = true := e3
          clear e1 e2 e3
          by_cases q0 : inR n = true
          ·
            have hk1 : okN op size words k (three a b c k) = true := by simp [okN, hs, hw, hn, q0]
            have Hk := Lib.hid hk1; clear hk1
            have Hq := Lib.hid q0
            clear hw hn q0
            go_wp2_with (go_at_call 42; refine (number1_any _ _).mono ?_; rintro e w4 ⟨rfl, rfl⟩; rw [Hq.out])
            go_roundw
            case rel => exact ⟨k + 1, by omega, by go_num, snoc_ok Hok.out Hk.out, hbx, hth, hbel⟩
            case measure => simp [intOf]; omega
          · have q1 : inR n = false := by simpa using q0
            have hk1 : okN op size words k (three a b c k) = false := by simp [okN, hs, hw, hn, q1]
            have Hk := Lib.hid hk1; clear hk1
            have Hq := Lib.hid q1
            clear hw hn q0 q1
            go_wp2_with (go_at_call 42; refine (number1_any _ _).mono ?_; rintro e w4 ⟨rfl, rfl⟩; rw [Hq.out])
            go_ret
            exact ⟨ret_bool (rightB_no hlt Hk.out).symm, hbel⟩
      · have hge : (hasOf op).size ≤ k := by omega
        by_cases hz : n = 0
        ·
          have hk1 : okN op size words k (three a b c k) = true := by simp [okN, hs, hn, hz]
          have Hk := Lib.hid hk1; clear hk1
          have hz' : (n != 0) = false := by simpa using hz
          clear hz hs hn
          go_wp2
          go_roundw
          case rel => exact ⟨k + 1, by omega, by go_num, snoc_ok Hok.out Hk.out, hbx, hth, hbel⟩
          case measure => simp [intOf]; omega
        ·
          have hk1 : okN op size words k (three a b c k) = false := by simp [okN, hs, hn, hz]
          have Hk := Lib.hid hk1; clear hk1
          have hz' : (n != 0) = true := by simpa using hz
          clear hz hs hn
          go_wp2
          go_ret
          exact ⟨ret_bool (rightB_no hlt Hk.out).symm, hbel⟩
    · have hkn : k = 3 := by omega
      have Hr : Hid (rightB op a b c size words = lastB op a b c) := rightB_yes HB.out (fun j hj => Hok.out j (by omega))
      clear hlt
      by_cases o0 : op = 0
      · subst o0
        by_cases q0 : a = 0
        · have Hl : Hid (lastB 0 a b c = true) := by show lastB 0 a b c = true; simp [lastB, q0]
          have q0' : (a != 0) = false := by simpa using q0
          clear q0
          go_wp2
          go_ret
          exact ⟨ret_bool (by rw [Hr.out, Hl.out]), hbel⟩
        · have q0' : (a != 0) = true := by simpa using q0
          by_cases q1 : a = 1
          · have Hl : Hid (lastB 0 a b c = true) := by show lastB 0 a b c = true; simp [lastB, q1]
            have q1' : (a != 1) = false := by simpa using q1
            clear q0 q1
            go_wp2
            go_ret
            exact ⟨ret_bool (by rw [Hr.out, Hl.out]), hbel⟩
          · have Hl : Hid (lastB 0 a b c = false) := by show lastB 0 a b c = false; simp [lastB, q0, q1]
            have q1' : (a != 1) = true := by simpa using q1
            clear q0 q1
            go_wp2
            go_ret
            exact ⟨ret_bool (by rw [Hr.out, Hl.out]), hbel⟩
      · have o0' : (op == 0) = false := by simpa using o0
        by_cases o1 : op = 17
        · subst o1
          by_cases q0 : b ≤ c
          · have Hl : Hid (lastB 17 a b c = true) := by show lastB 17 a b c = true; simp [lastB, q0]
            have q0' : decide (c < b) = false := decide_eq_false (by omega)
            clear q0
            go_wp2
            go_ret
            exact ⟨ret_bool (by rw [Hr.out, Hl.out]), hbel⟩
          · have Hl : Hid (lastB 17 a b c = false) := by show lastB 17 a b c = false; simp [lastB, q0]
            have q0' : decide (c < b) = true := decide_eq_true (by omega)
            clear q0
            go_wp2
            go_ret
            exact ⟨ret_bool (by rw [Hr.out, Hl.out]), hbel⟩
        · have o1' : (op == 17) = false := by simpa using o1
          by_cases o2 : op = 18
          · subst o2
            by_cases q0 : 0 ≤ c
            · have Hl : Hid (lastB 18 a b c = true) := by show lastB 18 a b c = true; simp [lastB, q0]
              have q0' : decide (c < 0) = false := decide_eq_false (by omega)
              clear q0
              go_wp2
              go_ret
              exact ⟨ret_bool (by rw [Hr.out, Hl.out]), hbel⟩
            · have Hl : Hid (lastB 18 a b c = false) := by show lastB 18 a b c = false; simp [lastB, q0]
              have q0' : decide (c < 0) = true := decide_eq_true (by omega)
              clear q0
              go_wp2
              go_ret
              exact ⟨ret_bool (by rw [Hr.out, Hl.out]), hbel⟩
          · have o2' : (op == 18) = false := by simpa using o2
            have Hl : Hid (lastB op a b c = true) := by show lastB op a b c = true; simp [lastB, o0, o1, o2]
            clear o0 o1 o2
            go_wp2
            go_ret
            exact ⟨ret_bool (by rw [Hr.out, Hl.out]), hbel⟩

theorem rightr_any (op a b c size words : Int) (w : World) :
    Calls Tryd.prog 24 #[.agg #[.int .i64 op, .int .i64 a, .int .i64 b, .int .i64 c], .int .i64 size, .int .i64 words] w fun e w' => e = .returned (.bool (rightB op a b c size words)) ∧ Below w.heap.size w w' := by
  by_cases h : 0 ≤ op ∧ op < 22
  · exact rightr_yes op a b c size words w h.1 h.2
  · have Hn : Hid (rightB op a b c size words = false) := by show rightB op a b c size words = false; simp [rightB, isB_no (by omega : op < 0 ∨ 22 ≤ op)]
    by_cases hl : op < 0
    · clear h
      go_enter Tryd.func24, Tryd.ntmps24
      go_wp2
      go_ret
      exact ⟨ret_bool Hn.out.symm, (Below.refl _ _).alloc (Nat.le_refl _) _⟩
    · have b0 : decide (op < 0) = false := decide_eq_false (by omega)
      have b1 : decide (21 < op) = true := decide_eq_true (by omega)
      clear h hl
      go_enter Tryd.func24, Tryd.ntmps24
      go_wp2
      go_ret
      exact ⟨ret_bool Hn.out.symm, (Below.refl _ _).alloc (Nat.le_refl _) _⟩
end Go.Proofs.YtecolkpnllikaaaDoor
