/- The walk of layer 1's look: the number that bytes begin with. Conditions: a bound on how many bytes. -/
import Derived.Test.YtecolkpnllikaaaDoorOct2
import Derived.Laws.Bits64b
namespace Go.Proofs.YtecolkpnllikaaaDoor
open Go.RowKit Go.Lib

/-- How many of the first bytes, ten at most, go on. -/
def goOn : Nat → List Nat → Nat
  | 0, _ => 0
  | _ + 1, [] => 0
  | f + 1, b :: l => if 128 ≤ b then goOn f l + 1 else 0
def valN : List Nat → Nat
  | [] => 0
  | b :: l => b % 128 + 128 * valN l
/-- The number, how many bytes it has, the error. -/
def lookN (l : List Nat) : Nat × Nat × Int :=
  let k := goOn 10 l
  if k = min l.length 10 then (0, 0, if l.length < 10 then 4 else 3)
  else if (0 < k ∧ l.getD k 0 = 0) ∨ (k = 9 ∧ 1 < l.getD k 0) then (0, 0, 3)
  else (valN (l.take (k + 1)), k + 1, 0)

theorem and127 {b : Nat} (h : b < 256) : bits BinOp.and IntKind.u8 (b : Int) 127 = ((b % 128 : Nat) : Int) := by
  have h2 : ∀ x : Fin 256, bits BinOp.and IntKind.u8 ((x.val : Nat) : Int) 127 = ((x.val % 128 : Nat) : Int) := by decide +kernel
  exact h2 ⟨b, h⟩
theorem bv_at {l : List Nat} {k : Nat} {u : Value} (h : (bv l)[k]? = some u) : u = .int .u8 ((l.getD k 0 : Nat) : Int) := by
  simp only [bv, List.getElem?_map, Option.map_eq_some_iff] at h
  obtain ⟨x, hx, rfl⟩ := h
  simp [List.getD_eq_getElem?_getD, hx]
theorem lookStep {x y k : Nat} (hk : k ≤ 8 ∨ (k ≤ 9 ∧ x < 2)) (hy : y < 128 ^ k) :
    bits BinOp.or IntKind.u64 (y : Int) (IntKind.u64.wrap ((x : Int) % 128 * 2 ^ (7 * k))) = ((y + 128 ^ k * (x % 128) : Nat) : Int) := by
  have e2 : (2 : Nat) ^ (7 * k) = 128 ^ k := by rw [Nat.pow_mul]
  have hb : 128 ^ k * (x % 128) ≤ 9223372036854775808 := by
    rcases hk with hk | ⟨hk, hx⟩
    · have h1 : 128 ^ k ≤ 128 ^ 8 := Nat.pow_le_pow_right (by omega) hk
      have h2 : x % 128 ≤ 127 := by omega
      have h3 := Nat.mul_le_mul h1 h2
      have h4 : 128 ^ 8 * 127 ≤ 9223372036854775808 := by decide
      omega
    · have h1 : 128 ^ k ≤ 128 ^ 9 := Nat.pow_le_pow_right (by omega) hk
      have h2 : x % 128 ≤ 1 := by omega
      have h3 := Nat.mul_le_mul h1 h2
      have h4 : 128 ^ 9 * 1 ≤ 9223372036854775808 := by decide
      omega
  have hy2 : y < 18446744073709551616 := by
    have h1 : 128 ^ k ≤ 128 ^ 9 := Nat.pow_le_pow_right (by omega) (by omega)
    have h4 : (128 : Nat) ^ 9 ≤ 18446744073709551615 := by decide
    omega
  have e3 : ((x : Int) % 128 * 2 ^ (7 * k)) = ((128 ^ k * (x % 128) : Nat) : Int) := by
    rw [← e2, Int.natCast_mul, Int.mul_comm, Int.natCast_pow]; rfl
  have e4 : IntKind.u64.wrap ((128 ^ k * (x % 128) : Nat) : Int) = ((128 ^ k * (x % 128) : Nat) : Int) := by
    rw [IntKind.wrap_u64]; omega
  rw [e3, e4, bits_or_u64_nat y _ hy2 (by omega)]
  congr 1
  have := Nat.two_pow_add_eq_or_of_lt (i := 7 * k) (b := y) (by rw [e2]; exact hy) (x % 128)
  rw [e2] at this
  rw [Nat.or_comm, ← this]; omega
theorem goOn_stop : ∀ (f : Nat) (l : List Nat) (k : Nat), k < f → k < l.length → (∀ j, j < k → 128 ≤ l.getD j 0) → l.getD k 0 < 128 → goOn f l = k := by
  intro f
  induction f with
  | zero => intro l k h; omega
  | succ f ih =>
    intro l k hf hl hall hk
    cases l with
    | nil => simp at hl
    | cons b l =>
      cases k with
      | zero => have hb : b < 128 := by simpa using hk
                simp [goOn, hb]
      | succ k =>
        have hb : 128 ≤ b := by simpa using hall 0 (by omega)
        rw [goOn, if_pos hb, ih l k (by omega) (by simpa using hl) (fun j hj => by simpa using hall (j + 1) (by omega)) (by simpa using hk)]
theorem goOn_end : ∀ (f : Nat) (l : List Nat), (∀ j, j < min l.length f → 128 ≤ l.getD j 0) → goOn f l = min l.length f := by
  intro f
  induction f with
  | zero => intro l _; simp [goOn]
  | succ f ih =>
    intro l hall
    cases l with
    | nil => simp [goOn]
    | cons b l =>
      have hb : 128 ≤ b := by simpa using hall 0 (by simp)
      rw [goOn, if_pos hb, ih l (fun j hj => by simpa using hall (j + 1) (by simp; omega))]
      simp
theorem valN_snoc (l : List Nat) (b : Nat) : valN (l ++ [b]) = valN l + 128 ^ l.length * (b % 128) := by
  induction l with
  | nil => simp [valN]
  | cons a l ih => simp only [List.cons_append, valN, ih, List.length_cons, Nat.pow_succ]; rw [Nat.mul_add]; rw [show 128 * (128 ^ l.length * (b % 128)) = 128 ^ l.length * 128 * (b % 128) by rw [Nat.mul_comm (128 ^ l.length) 128, Nat.mul_assoc]]; omega
theorem valN_lt (l : List Nat) : valN l < 128 ^ l.length := by
  induction l with
  | nil => simp [valN]
  | cons a l ih => simp only [valN, List.length_cons, Nat.pow_succ]; omega
theorem take_nat {l : List Nat} {k : Nat} (h : k < l.length) : l.take (k + 1) = l.take k ++ [l.getD k 0] := by
  rw [List.take_succ_eq_append_getElem h, List.getD_eq_getElem?_getD, List.getElem?_eq_getElem h]; rfl
theorem getD_memN {l : List Nat} {k : Nat} (h : k < l.length) : l.getD k 0 ∈ l := by
  rw [List.getD_eq_getElem?_getD, List.getElem?_eq_getElem h]; exact List.getElem_mem h

set_option maxRecDepth 100000 in
set_option maxHeartbeats 1000000 in
theorem look_any (A : Option Addr) (n c : Nat) (l : List Nat) (w : World) (hr : Rd w w.heap.size 1 A n (bv l)) (hn : n ≤ 1000000000) (hb : ∀ x ∈ l, x < 256) :
    Calls Tryd.prog 67 #[.slice A n c] w fun e w' => e = .returned (.tuple #[.int .u64 ((lookN l).1 : Int), .int .i64 ((lookN l).2.1 : Int), .int .i64 (lookN l).2.2]) ∧ w = w' := by
  have hl : l.length = n := by have := hr.1; rw [bv_len] at this; omega
  have Hl := Lib.hid hl
  have Hr := Lib.hid hr; have Hb := Lib.hid hb; clear hr hb hl
  by_cases h10 : n ≤ 10
  · have h10' : (n : Int) ≤ 10 := by omega
    go_enter Tryd.func67, Tryd.ntmps67
    go_wp2
    go_step3
    go_wp2
    go_step3
    go_wp2
    go_loop [5, 6, 11] (fun x la i => ∃ k y : Nat, k ≤ n ∧ i = .int .i64 k ∧ la = .int .i64 (-1) ∧ x = .int .u64 (y : Int) ∧ (k ≤ 9 → y = valN (l.take k)) ∧ (∀ j, j < k → 128 ≤ l.getD j 0)) (fun _ _ i => n - (intOf i).toNat)
    case atStart => exact ⟨0, 0, by omega, rfl, rfl, rfl, fun _ => by simp [valN], fun j hj => absurd hj (by omega)⟩
    case round =>
      obtain ⟨k, y, hk, rfl, rfl, rfl, hy, hge⟩ := hrel
      have Hy := Lib.hid hy; have Hge := Lib.hid hge; clear hy hge
      by_cases hlt : k < n
      · obtain ⟨b, o, u, rfl, hbB, hu, hcell⟩ := Hr.out.at_ (show k < n by omega) (show 0 < 1 by omega)
        simp only [Nat.mul_one, Nat.add_zero] at hu hcell
        obtain rfl := bv_at hu
        have hkl : k < l.length := by have := Hl.out; omega
        have hx : l.getD k 0 < 256 := Hb.out _ (getD_memN hkl)
        have Htk := Lib.hid (take_nat hkl)
        have Hkl := Lib.hid hkl
        clear hu hkl
        generalize hxk : l.getD k 0 = x at *
        have Hxk := Lib.hid hxk; clear hxk
        have ha := and127 hx
        have hi0 : (0 : Int) ≤ (k : Int) := by omega
        have hk9 : k ≤ 9 := by omega
        have Hstop : x < 128 → Hid (goOn 10 l = k) := fun h => goOn_stop 10 l k (by omega) Hkl.out Hge.out (by rw [Hxk.out]; exact h)
        have Hlt : Hid (¬ k = min l.length 10) := by show ¬ _; have := Hkl.out; omega
        by_cases h128 : x < 128
        · have hd : decide ((x : Int) < 128) = true := decide_eq_true (by omega)
          have Hgo := Hstop h128
          clear Hstop
          by_cases hbad : (0 < k ∧ x = 0) ∨ (k = 9 ∧ 1 < x)
          · have Hres : Hid (lookN l = (0, 0, 3)) := by
              show lookN l = _
              simp only [lookN, Hgo.out, if_neg Hlt.out, Hxk.out, if_pos hbad]
            rcases hbad with ⟨h1, h2⟩ | ⟨h1, h2⟩
            · subst h2
              clear h128 hd
              go_wp2
              first
                | go_ret3
                | (rw [Exit.noGoto_ret]; go_ret3)
              exact ⟨by rw [Hres.out]; rfl, rfl⟩
            · subst h1
              have hz : ((x : Int) == 0) = false := by simp; omega
              clear h128
              go_wp2
              first
                | go_ret3
                | (rw [Exit.noGoto_ret]; go_ret3)
              exact ⟨by rw [Hres.out]; rfl, rfl⟩
          · have Hval : Hid (valN (l.take (k + 1)) = y + 128 ^ k * (x % 128)) := by
              show _ = _
              rw [Htk.out, valN_snoc, ← Hy.out hk9]
              have : (l.take k).length = k := by have := Hkl.out; simp; omega
              rw [this]
            have Hres : Hid (lookN l = (y + 128 ^ k * (x % 128), k + 1, 0)) := by
              show lookN l = _
              simp only [lookN, Hgo.out, if_neg Hlt.out, Hxk.out, if_neg hbad, Hval.out]
            have Hst : Hid (bits BinOp.or IntKind.u64 (y : Int) (IntKind.u64.wrap ((x : Int) % 128 * 2 ^ (7 * k))) = ((y + 128 ^ k * (x % 128) : Nat) : Int)) :=
              lookStep (by omega) (by rw [Hy.out hk9]; have := valN_lt (l.take k); have e : (l.take k).length = k := by { have := Hkl.out; simp; omega }; rw [e] at this; exact this)
            by_cases hk0 : k = 0
            · have hq : decide ((0 : Int) < (k : Int)) = false := decide_eq_false (by omega)
              have hqi : (k : Int) ≤ 0 := by omega
              have hq9 : ((k : Int) == 9) = false := by simp; omega
              clear hbad hk0
              go_wp2
              go_ret3
              refine ⟨?_, rfl⟩
              rw [Hres.out, ← Hst.out]
              rfl
            · have hq : decide ((0 : Int) < (k : Int)) = true := decide_eq_true (by omega)
              have hqi : (0 : Int) < (k : Int) := by omega
              have hz : ((x : Int) == 0) = false := by simp; omega
              have hzi : (0 : Int) < (x : Int) := by omega
              by_cases hk9' : k = 9
              · have hq9 : ((k : Int) == 9) = true := by simp; omega
                have h1 : decide ((1 : Int) < (x : Int)) = false := decide_eq_false (by omega)
                clear hbad hk0 hk9'
                go_wp2
                go_ret3
                refine ⟨?_, rfl⟩
                rw [Hres.out, ← Hst.out]
                rfl
              · have hq9 : ((k : Int) == 9) = false := by simp; omega
                clear hbad hk0 hk9'
                go_wp2
                go_ret3
                refine ⟨?_, rfl⟩
                rw [Hres.out, ← Hst.out]
                rfl
        · have hd : decide ((x : Int) < 128) = false := decide_eq_false (by omega)
          have Hnew : Hid (∃ z : Nat, bits BinOp.or IntKind.u64 (y : Int) (IntKind.u64.wrap ((x : Int) % 128 * 2 ^ (7 * k))) = (z : Int) ∧ (k + 1 ≤ 9 → z = valN (l.take (k + 1)))) := by
            show ∃ _, _
            by_cases hk8 : k ≤ 8
            · refine ⟨y + 128 ^ k * (x % 128), lookStep (.inl hk8) ?_, fun _ => ?_⟩
              · rw [Hy.out hk9]
                have h := valN_lt (l.take k)
                have e : (l.take k).length = k := by have := Hkl.out; simp; omega
                rw [e] at h; exact h
              · rw [Htk.out, valN_snoc, ← Hy.out hk9]
                have : (l.take k).length = k := by have := Hkl.out; simp; omega
                rw [this]
            · obtain ⟨z, hz⟩ := Int.eq_ofNat_of_zero_le (bits_within BinOp.or IntKind.u64 (y : Int) (IntKind.u64.wrap ((x : Int) % 128 * 2 ^ (7 * k)))).1
              exact ⟨z, hz, fun h => by omega⟩
          have Hge2 : Hid (∀ j, j < k + 1 → 128 ≤ l.getD j 0) := by
            show ∀ _, _
            intro j hj
            rcases Nat.lt_or_ge j k with h1 | h1
            · exact Hge.out j h1
            · obtain rfl : j = k := by omega
              rw [Hxk.out]; omega
          clear Hstop
          go_wp2
          go_round
          case rel =>
            obtain ⟨z, hz, hv⟩ := Hnew.out
            exact ⟨k + 1, z, by omega, by go_num, rfl, by rw [← hz], hv, Hge2.out⟩
          case measure => simp [intOf]; omega
      · have hkm : k = n := by omega
        have Hgo : Hid (goOn 10 l = min l.length 10) := goOn_end 10 l (fun j hj => Hge.out j (by have := Hl.out; omega))
        by_cases hs : n < 10
        · have Hres : Hid (lookN l = (0, 0, 4)) := by
            show lookN l = _
            have := Hl.out
            simp only [lookN, Hgo.out, if_true]
            rw [if_pos (by omega)]
          have hsi : decide ((n : Int) < 10) = true := decide_eq_true (by omega)
          go_wp2
          first
            | go_ret3
            | (rw [Exit.noGoto_ret]; go_ret3)
          exact ⟨by rw [Hres.out]; rfl, rfl⟩
        · have Hres : Hid (lookN l = (0, 0, 3)) := by
            show lookN l = _
            have := Hl.out
            simp only [lookN, Hgo.out, if_true]
            rw [if_neg (by omega)]
          have hsi : decide ((n : Int) < 10) = false := decide_eq_false (by omega)
          go_wp2
          first
            | go_ret3
            | (rw [Exit.noGoto_ret]; go_ret3)
          exact ⟨by rw [Hres.out]; rfl, rfl⟩
  · have h10' : (10 : Int) < (n : Int) := by omega
    go_enter Tryd.func67, Tryd.ntmps67
    go_wp2
    go_step3
    go_wp2
    go_step3
    go_wp2
    go_loop [5, 6, 11] (fun x la i => ∃ k y : Nat, k ≤ 10 ∧ i = .int .i64 k ∧ la = .int .i64 (-1) ∧ x = .int .u64 (y : Int) ∧ (k ≤ 9 → y = valN (l.take k)) ∧ (∀ j, j < k → 128 ≤ l.getD j 0)) (fun _ _ i => 10 - (intOf i).toNat)
    case atStart => exact ⟨0, 0, by omega, rfl, rfl, rfl, fun _ => by simp [valN], fun j hj => absurd hj (by omega)⟩
    case round =>
      obtain ⟨k, y, hk, rfl, rfl, rfl, hy, hge⟩ := hrel
      have Hy := Lib.hid hy; have Hge := Lib.hid hge; clear hy hge
      by_cases hlt : k < 10
      · obtain ⟨b, o, u, rfl, hbB, hu, hcell⟩ := Hr.out.at_ (show k < n by omega) (show 0 < 1 by omega)
        simp only [Nat.mul_one, Nat.add_zero] at hu hcell
        obtain rfl := bv_at hu
        have hkl : k < l.length := by have := Hl.out; omega
        have hx : l.getD k 0 < 256 := Hb.out _ (getD_memN hkl)
        have Htk := Lib.hid (take_nat hkl)
        have Hkl := Lib.hid hkl
        clear hu hkl
        generalize hxk : l.getD k 0 = x at *
        have Hxk := Lib.hid hxk; clear hxk
        have ha := and127 hx
        have hi0 : (0 : Int) ≤ (k : Int) := by omega
        have hk9 : k ≤ 9 := by omega
        have Hstop : x < 128 → Hid (goOn 10 l = k) := fun h => goOn_stop 10 l k (by omega) Hkl.out Hge.out (by rw [Hxk.out]; exact h)
        have Hlt : Hid (¬ k = min l.length 10) := by show ¬ _; have := Hkl.out; omega
        by_cases h128 : x < 128
        · have hd : decide ((x : Int) < 128) = true := decide_eq_true (by omega)
          have Hgo := Hstop h128
          clear Hstop
          by_cases hbad : (0 < k ∧ x = 0) ∨ (k = 9 ∧ 1 < x)
          · have Hres : Hid (lookN l = (0, 0, 3)) := by
              show lookN l = _
              simp only [lookN, Hgo.out, if_neg Hlt.out, Hxk.out, if_pos hbad]
            rcases hbad with ⟨h1, h2⟩ | ⟨h1, h2⟩
            · subst h2
              clear h128 hd
              go_wp2
              first
                | go_ret3
                | (rw [Exit.noGoto_ret]; go_ret3)
              exact ⟨by rw [Hres.out]; rfl, rfl⟩
            · subst h1
              have hz : ((x : Int) == 0) = false := by simp; omega
              clear h128
              go_wp2
              first
                | go_ret3
                | (rw [Exit.noGoto_ret]; go_ret3)
              exact ⟨by rw [Hres.out]; rfl, rfl⟩
          · have Hval : Hid (valN (l.take (k + 1)) = y + 128 ^ k * (x % 128)) := by
              show _ = _
              rw [Htk.out, valN_snoc, ← Hy.out hk9]
              have : (l.take k).length = k := by have := Hkl.out; simp; omega
              rw [this]
            have Hres : Hid (lookN l = (y + 128 ^ k * (x % 128), k + 1, 0)) := by
              show lookN l = _
              simp only [lookN, Hgo.out, if_neg Hlt.out, Hxk.out, if_neg hbad, Hval.out]
            have Hst : Hid (bits BinOp.or IntKind.u64 (y : Int) (IntKind.u64.wrap ((x : Int) % 128 * 2 ^ (7 * k))) = ((y + 128 ^ k * (x % 128) : Nat) : Int)) :=
              lookStep (by omega) (by rw [Hy.out hk9]; have := valN_lt (l.take k); have e : (l.take k).length = k := by { have := Hkl.out; simp; omega }; rw [e] at this; exact this)
            by_cases hk0 : k = 0
            · have hq : decide ((0 : Int) < (k : Int)) = false := decide_eq_false (by omega)
              have hqi : (k : Int) ≤ 0 := by omega
              have hq9 : ((k : Int) == 9) = false := by simp; omega
              clear hbad hk0
              go_wp2
              go_ret3
              refine ⟨?_, rfl⟩
              rw [Hres.out, ← Hst.out]
              rfl
            · have hq : decide ((0 : Int) < (k : Int)) = true := decide_eq_true (by omega)
              have hqi : (0 : Int) < (k : Int) := by omega
              have hz : ((x : Int) == 0) = false := by simp; omega
              have hzi : (0 : Int) < (x : Int) := by omega
              by_cases hk9' : k = 9
              · have hq9 : ((k : Int) == 9) = true := by simp; omega
                have h1 : decide ((1 : Int) < (x : Int)) = false := decide_eq_false (by omega)
                clear hbad hk0 hk9'
                go_wp2
                go_ret3
                refine ⟨?_, rfl⟩
                rw [Hres.out, ← Hst.out]
                rfl
              · have hq9 : ((k : Int) == 9) = false := by simp; omega
                clear hbad hk0 hk9'
                go_wp2
                go_ret3
                refine ⟨?_, rfl⟩
                rw [Hres.out, ← Hst.out]
                rfl
        · have hd : decide ((x : Int) < 128) = false := decide_eq_false (by omega)
          have Hnew : Hid (∃ z : Nat, bits BinOp.or IntKind.u64 (y : Int) (IntKind.u64.wrap ((x : Int) % 128 * 2 ^ (7 * k))) = (z : Int) ∧ (k + 1 ≤ 9 → z = valN (l.take (k + 1)))) := by
            show ∃ _, _
            by_cases hk8 : k ≤ 8
            · refine ⟨y + 128 ^ k * (x % 128), lookStep (.inl hk8) ?_, fun _ => ?_⟩
              · rw [Hy.out hk9]
                have h := valN_lt (l.take k)
                have e : (l.take k).length = k := by have := Hkl.out; simp; omega
                rw [e] at h; exact h
              · rw [Htk.out, valN_snoc, ← Hy.out hk9]
                have : (l.take k).length = k := by have := Hkl.out; simp; omega
                rw [this]
            · obtain ⟨z, hz⟩ := Int.eq_ofNat_of_zero_le (bits_within BinOp.or IntKind.u64 (y : Int) (IntKind.u64.wrap ((x : Int) % 128 * 2 ^ (7 * k)))).1
              exact ⟨z, hz, fun h => by omega⟩
          have Hge2 : Hid (∀ j, j < k + 1 → 128 ≤ l.getD j 0) := by
            show ∀ _, _
            intro j hj
            rcases Nat.lt_or_ge j k with h1 | h1
            · exact Hge.out j h1
            · obtain rfl : j = k := by omega
              rw [Hxk.out]; omega
          clear Hstop
          go_wp2
          go_round
          case rel =>
            obtain ⟨z, hz, hv⟩ := Hnew.out
            exact ⟨k + 1, z, by omega, by go_num, rfl, by rw [← hz], hv, Hge2.out⟩
          case measure => simp [intOf]; omega
      · have hkm : k = 10 := by omega
        have Hgo : Hid (goOn 10 l = min l.length 10) := goOn_end 10 l (fun j hj => Hge.out j (by have := Hl.out; omega))
        by_cases hs : n < 10
        · have Hres : Hid (lookN l = (0, 0, 4)) := by
            show lookN l = _
            have := Hl.out
            simp only [lookN, Hgo.out, if_true]
            rw [if_pos (by omega)]
          have hsi : decide ((n : Int) < 10) = true := decide_eq_true (by omega)
          go_wp2
          first
            | go_ret3
            | (rw [Exit.noGoto_ret]; go_ret3)
          exact ⟨by rw [Hres.out]; rfl, rfl⟩
        · have Hres : Hid (lookN l = (0, 0, 3)) := by
            show lookN l = _
            have := Hl.out
            simp only [lookN, Hgo.out, if_true]
            rw [if_neg (by omega)]
          have hsi : decide ((n : Int) < 10) = false := decide_eq_false (by omega)
          go_wp2
          first
            | go_ret3
            | (rw [Exit.noGoto_ret]; go_ret3)
          exact ⟨by rw [Hres.out]; rfl, rfl⟩
end Go.Proofs.YtecolkpnllikaaaDoor
