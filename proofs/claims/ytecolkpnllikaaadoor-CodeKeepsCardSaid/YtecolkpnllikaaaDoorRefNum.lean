/- The walk of the reference of layer 1: the number that bytes begin with. Conditions: a bound on how many bytes. -/
import Derived.Test.YtecolkpnllikaaaDoorReader
namespace Go.Proofs.YtecolkpnllikaaaDoor
open Go.RowKit Go.Lib

theorem valN_mono (l : List Nat) (j : Nat) : valN (l.drop j) ≤ valN l := by
  induction j generalizing l with
  | zero => simp
  | succ j ih =>
    cases l with
    | nil => simp
    | cons b l => simp only [List.drop_succ_cons, valN]; have := ih l; omega
theorem valN_drop {l : List Nat} {j : Nat} (h : j < l.length) : valN (l.drop j) = l.getD j 0 % 128 + 128 * valN (l.drop (j + 1)) := by
  rw [List.drop_eq_getElem_cons h, valN, List.getD_eq_getElem?_getD, List.getElem?_eq_getElem h]; rfl
/-- Small: ten bytes whose last one is 1 at most. -/
theorem valN_small {l : List Nat} {k : Nat} (hk : k ≤ 9) (h9 : k = 9 → l.getD 9 0 ≤ 1) (hl : k < l.length) : valN (l.take (k + 1)) < 18446744073709551616 := by
  rw [take_nat hl, valN_snoc]
  have h1 := valN_lt (l.take k)
  have e : (l.take k).length = k := by simp; omega
  rw [e] at h1 ⊢
  rcases Nat.lt_or_ge k 9 with h2 | h2
  · have h3 : 128 ^ k ≤ 128 ^ 8 := Nat.pow_le_pow_right (by omega) (by omega)
    have h4 : l.getD k 0 % 128 ≤ 127 := by omega
    have h5 := Nat.mul_le_mul h3 h4
    have h6 : (128 : Nat) ^ 8 = 72057594037927936 := by decide
    omega
  · obtain rfl : k = 9 := by omega
    have h4 : l.getD 9 0 % 128 ≤ 1 := by have := h9 rfl; omega
    have h5 := Nat.mul_le_mul (Nat.le_refl (128 ^ 9)) h4
    have h6 : (128 : Nat) ^ 9 = 9223372036854775808 := by decide
    omega
set_option maxRecDepth 100000 in
set_option maxHeartbeats 1000000 in
theorem numberr_any (A : Option Addr) (n c : Nat) (l : List Nat) (w : World) (hr : Rd w w.heap.size 1 A n (bv l)) (hn : n ≤ 1000000000) (hb : ∀ x ∈ l, x < 256) :
    Calls Tryd.prog 71 #[.slice A n c] w fun e w' => e = .returned (.tuple #[.int .u64 ((lookN l).1 : Int), .int .i64 ((lookN l).2.1 : Int), .int .i64 (lookN l).2.2]) ∧ w = w' := by
  have hl : l.length = n := by have := hr.1; rw [bv_len] at this; omega
  have Hl := Lib.hid hl
  have Hr := Lib.hid hr; have Hb := Lib.hid hb; clear hr hb hl
  go_enter Tryd.func71, Tryd.ntmps71
  go_wp2
  go_loop [5] (fun i => ∃ k : Nat, k ≤ n ∧ k ≤ 10 ∧ i = .int .i64 k ∧ (∀ j, j < k → 128 ≤ l.getD j 0)) (fun i => 10 - (intOf i).toNat)
  case atStart => exact ⟨0, by omega, by omega, rfl, fun j hj => absurd hj (by omega)⟩
  case round =>
    obtain ⟨k, hk, hk10, rfl, hge⟩ := hrel
    have Hge := Lib.hid hge; clear hge
    by_cases hkn : k = n
    · have Hgo : Hid (goOn 10 l = min l.length 10) := goOn_end 10 l (fun j hj => Hge.out j (by have := Hl.out; omega))
      subst hkn
      have hd1 : decide ((k : Int) < (k : Int)) = false := decide_eq_false (by omega)
      by_cases h10 : k = 10
      · have Hres : Hid (lookN l = (0, 0, 3)) := by
          show lookN l = _
          have := Hl.out
          simp only [lookN, Hgo.out, if_true]
          rw [if_neg (by omega)]
        subst h10
        go_wp2
        go_ret3
        exact ⟨by rw [Hres.out]; rfl, rfl⟩
      · have Hres : Hid (lookN l = (0, 0, 4)) := by
          show lookN l = _
          have := Hl.out
          simp only [lookN, Hgo.out, if_true]
          rw [if_pos (by omega)]
        have hd2 : decide ((k : Int) < 10) = true := decide_eq_true (by omega)
        clear h10
        go_wp2
        go_ret3
        exact ⟨by rw [Hres.out]; rfl, rfl⟩
    · have hd1 : decide ((k : Int) < (n : Int)) = true := decide_eq_true (by omega)
      have hq1 : ((k : Int) == (n : Int)) = false := by simp; omega
      by_cases h10 : k = 10
      · have Hgo : Hid (goOn 10 l = min l.length 10) := goOn_end 10 l (fun j hj => Hge.out j (by have := Hl.out; omega))
        have Hres : Hid (lookN l = (0, 0, 3)) := by
          show lookN l = _
          have := Hl.out
          simp only [lookN, Hgo.out, if_true]
          rw [if_neg (by omega)]
        subst h10
        have q1 : ((10 : Int) == (n : Int)) = false := by simp; omega
        have q2 : decide ((10 : Int) < (n : Int)) = true := decide_eq_true (by omega)
        clear hkn hq1 hd1
        go_wp2
        go_ret3
        exact ⟨by rw [Hres.out]; rfl, rfl⟩
      · obtain ⟨b, o, u, rfl, hbB, hu, hcell⟩ := Hr.out.at_ (show k < n by omega) (show 0 < 1 by omega)
        simp only [Nat.mul_one, Nat.add_zero] at hu hcell
        obtain rfl := bv_at hu
        have hkl : k < l.length := by have := Hl.out; omega
        have hx : l.getD k 0 < 256 := Hb.out _ (getD_memN hkl)
        have Hkl := Lib.hid hkl
        clear hu hkl
        generalize hxk : l.getD k 0 = x at *
        have Hxk := Lib.hid hxk; clear hxk
        have hk9 : k ≤ 9 := by omega
        have hd2 : decide ((k : Int) < 10) = true := decide_eq_true (by omega)
        have hq10 : ((k : Int) == 10) = false := by simp; omega
        have hki : (k : Int) < (n : Int) := by omega
        by_cases h128 : x < 128
        · have Hgo : Hid (goOn 10 l = k) := goOn_stop 10 l k (by omega) Hkl.out Hge.out (by rw [Hxk.out]; exact h128)
          have Hlt : Hid (¬ k = min l.length 10) := by show ¬ _; have := Hkl.out; omega
          have hd3 : decide ((128 : Int) ≤ (x : Int)) = false := decide_eq_false (by omega)
          by_cases hbad : (0 < k ∧ x = 0) ∨ (k = 9 ∧ 1 < x)
          · have Hres : Hid (lookN l = (0, 0, 3)) := by
              show lookN l = _
              simp only [lookN, Hgo.out, if_neg Hlt.out, Hxk.out, if_pos hbad]
            clear h10 hkn h128
            rcases hbad with ⟨h1, h2⟩ | ⟨h1, h2⟩
            · subst h2
              have hd4 : decide ((0 : Int) < (k : Int)) = true := decide_eq_true (by omega)
              go_wp2
              go_ret3
              exact ⟨by rw [Hres.out]; rfl, rfl⟩
            · subst h1
              have hz : ((x : Int) == 0) = false := by simp; omega
              have hd5 : decide ((1 : Int) < (x : Int)) = true := decide_eq_true (by omega)
              go_wp2
              go_ret3
              exact ⟨by rw [Hres.out]; rfl, rfl⟩
          · have Hres : Hid (lookN l = (valN (l.take (k + 1)), k + 1, 0)) := by
              show lookN l = _
              simp only [lookN, Hgo.out, if_neg Hlt.out, Hxk.out, if_neg hbad]
            have H9 : Hid (k = 9 → x ≤ 1) := fun e => by omega
            clear h10 hkn h128
            by_cases hk0 : k = 0
            · have hq : decide ((0 : Int) < (k : Int)) = false := decide_eq_false (by omega)
              have hqi : (k : Int) ≤ 0 := by omega
              have hq9 : ((k : Int) == 9) = false := by simp; omega
              clear hbad hk0
              have Hsmall : Hid (valN (l.take (k + 1)) < 18446744073709551616) := valN_small hk9 (fun e => by have := H9.out e; rw [e] at Hxk; rw [Hxk.out]; exact this) Hkl.out
              clear H9
              go_wp2
              go_loop [6, 7] (fun s i => ∃ j : Nat, j ≤ k + 1 ∧ i = .int .i64 ((j : Int) - 1) ∧ s = .int .u64 (valN ((l.take (k + 1)).drop j) : Int)) (fun _ i => (intOf i + 1).toNat)
              case atStart => exact ⟨k + 1, by omega, by simp, by have : (l.take (k + 1)).drop (k + 1) = [] := by { rw [List.drop_eq_nil_iff]; simp; omega }; rw [this]; rfl⟩
              case round =>
                obtain ⟨j, hj, rfl, rfl⟩ := hrel
                cases j with
                | zero =>
                  have hd9 : decide ((0 : Int) ≤ -1) = false := rfl
                  go_wp2
                  go_ret3
                  exact ⟨by rw [Hres.out]; rfl, rfl⟩
                | succ j =>
                  obtain ⟨b', o', u', e', hbB', hu', hcell'⟩ := Hr.out.at_ (show j < n by have := Hkl.out; have := Hl.out; omega) (show 0 < 1 by omega)
                  simp only [Option.some.injEq, Addr.mk.injEq] at e'
                  obtain ⟨rfl, rfl, _⟩ := e'
                  simp only [Nat.mul_one, Nat.add_zero] at hu' hcell'
                  obtain rfl := bv_at hu'
                  have Hvd : Hid (valN ((l.take (k + 1)).drop j) = l.getD j 0 % 128 + 128 * valN ((l.take (k + 1)).drop (j + 1))) := by
                    show _ = _
                    rw [valN_drop (by have := Hkl.out; simp; omega)]
                    congr 2
                    rw [List.getD_eq_getElem?_getD, List.getElem?_take_of_lt (by omega), ← List.getD_eq_getElem?_getD]
                  have hmo := valN_mono (l.take (k + 1)) j
                  have hsm := Hsmall.out
                  rw [Hvd.out] at hmo
                  clear hu'
                  have hx' : l.getD j 0 < 256 := Hb.out _ (getD_memN (by have := Hkl.out; omega))
                  generalize l.getD j 0 = y at *
                  generalize valN ((l.take (k + 1)).drop (j + 1)) = s at *
                  have e1 : IntKind.u64.wrap (128 * (s : Int)) = 128 * (s : Int) := by rw [IntKind.wrap_u64]; omega
                  have e2 : IntKind.u64.wrap (128 * (s : Int) + (y : Int) % 128) = 128 * (s : Int) + (y : Int) % 128 := by rw [IntKind.wrap_u64]; omega
                  have e3 : ((j + 1 : Nat) : Int) - 1 = (j : Int) := by omega
                  have hjn : (j : Int) < (n : Int) := by have := Hkl.out; have := Hl.out; omega
                  clear hmo hsm
                  rw [e3]
                  clear e3
                  have hd9 : decide ((0 : Int) ≤ (j : Int)) = true := decide_eq_true (by omega)
                  go_wp2
                  go_round
                  case rel => exact ⟨j, by omega, by first | rfl | go_num, by rw [Hvd.out]; first | rfl | go_num⟩
                  case measure => simp [intOf]
            · have hq : decide ((0 : Int) < (k : Int)) = true := decide_eq_true (by omega)
              have hqi : (0 : Int) < (k : Int) := by omega
              have hz : ((x : Int) == 0) = false := by simp; omega
              have hzi : (0 : Int) < (x : Int) := by omega
              by_cases hk9' : k = 9
              · have hq9 : ((k : Int) == 9) = true := by simp; omega
                have h1 : decide ((1 : Int) < (x : Int)) = false := decide_eq_false (by omega)
                have hcell9 : w.cell? ⟨b, o + 9, none⟩ = some (.int .u8 (x : Int)) := by rw [← hk9']; exact hcell
                have hn9 : (9 : Int) < (n : Int) := by omega
                clear hbad hk0 hk9'
                have Hsmall : Hid (valN (l.take (k + 1)) < 18446744073709551616) := valN_small hk9 (fun e => by have := H9.out e; rw [e] at Hxk; rw [Hxk.out]; exact this) Hkl.out
                clear H9
                go_wp2
                go_loop [6, 7] (fun s i => ∃ j : Nat, j ≤ k + 1 ∧ i = .int .i64 ((j : Int) - 1) ∧ s = .int .u64 (valN ((l.take (k + 1)).drop j) : Int)) (fun _ i => (intOf i + 1).toNat)
                case atStart => exact ⟨k + 1, by omega, by simp, by have : (l.take (k + 1)).drop (k + 1) = [] := by { rw [List.drop_eq_nil_iff]; simp; omega }; rw [this]; rfl⟩
                case round =>
                  obtain ⟨j, hj, rfl, rfl⟩ := hrel
                  cases j with
                  | zero =>
                    have hd9 : decide ((0 : Int) ≤ -1) = false := rfl
                    go_wp2
                    go_ret3
                    exact ⟨by rw [Hres.out]; rfl, rfl⟩
                  | succ j =>
                    obtain ⟨b', o', u', e', hbB', hu', hcell'⟩ := Hr.out.at_ (show j < n by have := Hkl.out; have := Hl.out; omega) (show 0 < 1 by omega)
                    simp only [Option.some.injEq, Addr.mk.injEq] at e'
                    obtain ⟨rfl, rfl, _⟩ := e'
                    simp only [Nat.mul_one, Nat.add_zero] at hu' hcell'
                    obtain rfl := bv_at hu'
                    have Hvd : Hid (valN ((l.take (k + 1)).drop j) = l.getD j 0 % 128 + 128 * valN ((l.take (k + 1)).drop (j + 1))) := by
                      show _ = _
                      rw [valN_drop (by have := Hkl.out; simp; omega)]
                      congr 2
                      rw [List.getD_eq_getElem?_getD, List.getElem?_take_of_lt (by omega), ← List.getD_eq_getElem?_getD]
                    have hmo := valN_mono (l.take (k + 1)) j
                    have hsm := Hsmall.out
                    rw [Hvd.out] at hmo
                    clear hu'
                    have hx' : l.getD j 0 < 256 := Hb.out _ (getD_memN (by have := Hkl.out; omega))
                    generalize l.getD j 0 = y at *
                    generalize valN ((l.take (k + 1)).drop (j + 1)) = s at *
                    have e1 : IntKind.u64.wrap (128 * (s : Int)) = 128 * (s : Int) := by rw [IntKind.wrap_u64]; omega
                    have e2 : IntKind.u64.wrap (128 * (s : Int) + (y : Int) % 128) = 128 * (s : Int) + (y : Int) % 128 := by rw [IntKind.wrap_u64]; omega
                    have e3 : ((j + 1 : Nat) : Int) - 1 = (j : Int) := by omega
                    have hjn : (j : Int) < (n : Int) := by have := Hkl.out; have := Hl.out; omega
                    clear hmo hsm
                    rw [e3]
                    clear e3
                    have hd9 : decide ((0 : Int) ≤ (j : Int)) = true := decide_eq_true (by omega)
                    go_wp2
                    go_round
                    case rel => exact ⟨j, by omega, by first | rfl | go_num, by rw [Hvd.out]; first | rfl | go_num⟩
                    case measure => simp [intOf]
              · have hq9 : ((k : Int) == 9) = false := by simp; omega
                clear hbad hk0 hk9'
                have Hsmall : Hid (valN (l.take (k + 1)) < 18446744073709551616) := valN_small hk9 (fun e => by have := H9.out e; rw [e] at Hxk; rw [Hxk.out]; exact this) Hkl.out
                clear H9
                go_wp2
                go_loop [6, 7] (fun s i => ∃ j : Nat, j ≤ k + 1 ∧ i = .int .i64 ((j : Int) - 1) ∧ s = .int .u64 (valN ((l.take (k + 1)).drop j) : Int)) (fun _ i => (intOf i + 1).toNat)
                case atStart => exact ⟨k + 1, by omega, by simp, by have : (l.take (k + 1)).drop (k + 1) = [] := by { rw [List.drop_eq_nil_iff]; simp; omega }; rw [this]; rfl⟩
                case round =>
                  obtain ⟨j, hj, rfl, rfl⟩ := hrel
                  cases j with
                  | zero =>
                    have hd9 : decide ((0 : Int) ≤ -1) = false := rfl
                    go_wp2
                    go_ret3
                    exact ⟨by rw [Hres.out]; rfl, rfl⟩
                  | succ j =>
                    obtain ⟨b', o', u', e', hbB', hu', hcell'⟩ := Hr.out.at_ (show j < n by have := Hkl.out; have := Hl.out; omega) (show 0 < 1 by omega)
                    simp only [Option.some.injEq, Addr.mk.injEq] at e'
                    obtain ⟨rfl, rfl, _⟩ := e'
                    simp only [Nat.mul_one, Nat.add_zero] at hu' hcell'
                    obtain rfl := bv_at hu'
                    have Hvd : Hid (valN ((l.take (k + 1)).drop j) = l.getD j 0 % 128 + 128 * valN ((l.take (k + 1)).drop (j + 1))) := by
                      show _ = _
                      rw [valN_drop (by have := Hkl.out; simp; omega)]
                      congr 2
                      rw [List.getD_eq_getElem?_getD, List.getElem?_take_of_lt (by omega), ← List.getD_eq_getElem?_getD]
                    have hmo := valN_mono (l.take (k + 1)) j
                    have hsm := Hsmall.out
                    rw [Hvd.out] at hmo
                    clear hu'
                    have hx' : l.getD j 0 < 256 := Hb.out _ (getD_memN (by have := Hkl.out; omega))
                    generalize l.getD j 0 = y at *
                    generalize valN ((l.take (k + 1)).drop (j + 1)) = s at *
                    have e1 : IntKind.u64.wrap (128 * (s : Int)) = 128 * (s : Int) := by rw [IntKind.wrap_u64]; omega
                    have e2 : IntKind.u64.wrap (128 * (s : Int) + (y : Int) % 128) = 128 * (s : Int) + (y : Int) % 128 := by rw [IntKind.wrap_u64]; omega
                    have e3 : ((j + 1 : Nat) : Int) - 1 = (j : Int) := by omega
                    have hjn : (j : Int) < (n : Int) := by have := Hkl.out; have := Hl.out; omega
                    clear hmo hsm
                    rw [e3]
                    clear e3
                    have hd9 : decide ((0 : Int) ≤ (j : Int)) = true := decide_eq_true (by omega)
                    go_wp2
                    go_round
                    case rel => exact ⟨j, by omega, by first | rfl | go_num, by rw [Hvd.out]; first | rfl | go_num⟩
                    case measure => simp [intOf]
        · have hd3 : decide ((128 : Int) ≤ (x : Int)) = true := decide_eq_true (by omega)
          have Hge2 : Hid (∀ j, j < k + 1 → 128 ≤ l.getD j 0) := by
            show ∀ _, _
            intro j hj
            rcases Nat.lt_or_ge j k with h1 | h1
            · exact Hge.out j h1
            · obtain rfl : j = k := by omega
              rw [Hxk.out]; omega
          clear h10 hkn h128
          go_wp2
          go_round
          case rel => exact ⟨k + 1, by omega, by omega, by go_num, Hge2.out⟩
          case measure => simp [intOf]; omega
end Go.Proofs.YtecolkpnllikaaaDoor
