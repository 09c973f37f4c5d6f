/- The walks of layer 1 (octet): a number's bytes put behind others. Conditions: bounds on lengths. The walks of layer 1 (octet): a fresh copy of bytes, a number's bytes, bytes with how many they are, put behind others. Conditions: bounds on lengths. The walk of layer 1's look: the number that bytes begin with. Conditions: a bound on how many bytes. The walks of layer 1's Reader: numbers. Conditions: bounds on lengths. The walk of the reference of layer 1: the number that bytes begin with. Conditions: a bound on how many bytes. The walks of layer 1's NewReader, Err, Left, End. Conditions: bounds on lengths. The walks of the reference's reader of layer 1: Fail, Read, End. Conditions: bounds on how many bytes. The walks of the reference of layer 1: a number's bytes. Conditions: bounds. The walks of layer 1's PutBytes, and of the reference's Bytes. Conditions: bounds on how many bytes. The walk of layer 1's Reader.Bytes. Conditions: bounds on lengths. The walk of layer 1's Reader.Bytes, in a reader. Conditions: bounds on lengths. The walk of the reference's Some: bytes with how many they are. Conditions: bounds on how many bytes. -/
import Derived.Test.YthjpaclcoipocaaGreatProg
import Derived.Test.YthjpaclcoipocaaGreatWords
import Derived.WalkLawsBesides
import Derived.Laws.BitsAllLaws
import Derived.Laws.ShiftsVarLaws
import Derived.Test.YthjpaclcoipocaaGreatAppend
import Derived.Laws.Bits64b
import Derived.Test.YthjpaclcoipocaaGreatSlice
import Derived.Deep.RegionHeld3
import Derived.Lib.SmallJoins
import Derived.Deep.QuietTactic
import Derived.BigQuiet
import Derived.Laws.BytesArg
import Derived.Lib.Bytes
namespace Go.Proofs.YthjpaclcoipocaaGreat
open Go.RowKit Go.Lib

/-- Bytes as cells. -/
def bv (l : List Nat) : List Value := l.map fun (x : Nat) => .int .u8 (x : Int)
theorem bv_len (l : List Nat) : (bv l).length = l.length := by simp [bv]
theorem bv_append (l m : List Nat) : bv (l ++ m) = bv l ++ bv m := by simp [bv]
def enc7 : Nat → Nat → List Nat
  | 0, n => [n]
  | f + 1, n => if n < 128 then [n] else (n % 128 + 128) :: enc7 f (n / 128)
def encN (n : Nat) : List Nat := enc7 10 n
theorem info_u8 : (Tryz.prog.info? 5).map (fun i => (i.zero, i.size, i.bytes)) = some (some (.int .u8 0), 1, 1) := by kernel_rfl

theorem enc7_small {f m : Nat} (h : m < 128) : enc7 f m = [m] := by cases f <;> simp [enc7, h]
theorem enc7_big {f m : Nat} (h : ¬ m < 128) : enc7 (f + 1) m = (m % 128 + 128) :: enc7 f (m / 128) := by simp [enc7, h]
theorem enc7_len (f m : Nat) : (enc7 f m).length ≤ f + 1 := by
  induction f generalizing m with
  | zero => simp [enc7]
  | succ f ih => unfold enc7; split; simp; have := ih (m / 128); simp; omega
theorem encN_len (n : Nat) : (encN n).length ≤ 11 := enc7_len 10 n
theorem or128 (n : Nat) : bits BinOp.or IntKind.u8 ((n : Int) % 256) 128 = ((n % 128 + 128 : Nat) : Int) := by
  have h : ∀ x : Fin 256, bits BinOp.or IntKind.u8 ((x.val : Nat) : Int) 128 = ((x.val % 128 + 128 : Nat) : Int) := by decide +kernel
  have := h ⟨n % 256, Nat.mod_lt _ (by omega)⟩
  simp only at this
  rw [show ((n : Int) % 256) = ((n % 256 : Nat) : Int) by omega, this]
  congr 1; omega

set_option maxRecDepth 100000 in
set_option maxHeartbeats 1000000 in
theorem number_any (base k cp : Nat) (A : Option Addr) (n : Nat) (xs : List Value) (w : World) (hown : w.ownsRow base 5 1 (.slice A k cp) k xs) (hbase : base ≤ w.heap.size) (hk : k ≤ 1000000000) (hn : n < 18446744073709551616) :
    Calls Tryz.prog 48 #[.slice A k cp, .int .u64 n] w fun e w' => ∃ A' c', e = .returned (.slice A' (k + (encN n).length) c') ∧ w'.ownsRow base 5 1 (.slice A' (k + (encN n).length) c') (k + (encN n).length) (xs ++ bv (encN n)) ∧ Below base w w' := by
  obtain ⟨i0, hi, hz0, hz1, hz2⟩ := info_parts info_u8
  have HI := Lib.hid (And.intro hi (And.intro hz0 (And.intro hz1 hz2))); clear hi hz0 hz1 hz2
  have Hown := Lib.hid hown; clear hown
  have Hn := Lib.hid hn; clear hn
  go_enter Tryz.func48, Tryz.ntmps48
  go_wp2
  go_loopw [0, 1] (fun v x wr => ∃ (d : List Nat) (f m : Nat) (A' : Option Addr) (c' : Nat), v = .slice A' (k + d.length) c' ∧ x = .int .u64 (m : Int) ∧ wr.ownsRow base 5 1 (.slice A' (k + d.length) c') (k + d.length) (xs ++ bv d) ∧ d ++ enc7 f m = encN n ∧ m < 128 ^ (f + 1) ∧ m ≤ n ∧ d.length + f = 10 ∧ Below base w wr) (fun _ x _ => (intOf x).toNat)
  case atStart => exact ⟨[], 10, n, A, cp, rfl, rfl, by simpa [bv] using Hown.out, by simp [encN], Nat.lt_of_lt_of_le Hn.out (by decide), Nat.le_refl _, rfl, Below.refl _ _⟩
  case round =>
    obtain ⟨d, f, m, A', c', rfl, rfl, hown, henc, hm, hmn, hdf, hbel⟩ := hrel
    have Hown2 := Lib.hid hown; have Henc := Lib.hid henc; have Hm := Lib.hid hm; have Hbel := Lib.hid hbel
    have hsz : base ≤ wr.heap.size := Nat.le_trans hbase hbel.size
    have hm64 : m < 18446744073709551616 := Nat.lt_of_le_of_lt hmn Hn.out
    have Hm64 := Lib.hid hm64
    have hdl : d.length ≤ 10 := by omega
    have Hdf := Lib.hid hdf; have Hmn := Lib.hid hmn
    clear hown henc hm hbel hm64 hmn hdf
    by_cases h : m < 128
    · have hd0 : decide ((128 : Int) ≤ (m : Int)) = false := decide_eq_false (by omega)
      have em := enc7_small (f := f) h
      have Hem := Lib.hid em; clear em
      go_wp2_with (at_builtin; go_must (refine wpList_append_lit wr (by rfl) _ _ 24 (by rfl) base 5 i0 (.int .u8 0) 1 1 Tryz.underlying24 HI.out rfl (by decide) _ _ _ (by rfl) Hown2.out 1 1 #[.int .u8 (m : Int)] 5 (by rfl) rfl (by simp [Value.oneCell']) (by omega) (by omega) (by omega) ?_); intro v4 w4 hown4 hbel4)
      obtain ⟨A4, c4, rfl⟩ := own_form hown4
      have Hown4 := Lib.hid hown4; have Hbel4 := Lib.hid (Hbel.out.trans hbel4); clear hown4 hbel4
      go_ret
      have he : encN n = d ++ [m] := by rw [← Henc.out, Hem.out]
      refine ⟨A4, c4, by rw [he]; simp [Nat.add_assoc], ?_, Hbel4.out⟩
      rw [he, bv_append, List.length_append, ← List.append_assoc, ← Nat.add_assoc]
      exact Hown4.out
    · obtain ⟨f', rfl⟩ : ∃ f', f = f' + 1 := by
        cases f with
        | zero => have := Hm.out; simp at this; omega
        | succ f' => exact ⟨f', rfl⟩
      have hd0 : decide ((128 : Int) ≤ (m : Int)) = true := decide_eq_true (by omega)
      have hor := or128 m
      go_wp2_with (at_builtin; go_must (refine wpList_append_lit wr (by rfl) _ _ 24 (by rfl) base 5 i0 (.int .u8 0) 1 1 Tryz.underlying24 HI.out rfl (by decide) _ _ _ (by rfl) Hown2.out 1 1 #[.int .u8 ((m % 128 + 128 : Nat) : Int)] 5 (by rfl) rfl (by simp [Value.oneCell']) (by omega) (by omega) (by omega) ?_); intro v4 w4 hown4 hbel4)
      obtain ⟨A4, c4, rfl⟩ := own_form hown4
      have Hown4 := Lib.hid hown4; have Hbel4 := Lib.hid (Hbel.out.trans hbel4); clear hown4 hbel4
      go_wp2
      go_roundw
      case rel =>
        refine ⟨d ++ [m % 128 + 128], f', m / 128, A4, c4, ?_, ?_, ?_, ?_, ?_, ?_, ?_, Hbel4.out⟩
        · simp [Nat.add_assoc]
        · first | rfl | go_num
        · rw [bv_append, List.length_append, ← List.append_assoc, ← Nat.add_assoc]; exact Hown4.out
        · rw [← Henc.out, enc7_big h]; simp
        · have := Hm.out
          rw [Nat.pow_succ] at this
          exact Nat.div_lt_of_lt_mul (by rw [Nat.mul_comm]; exact this)
        · have := Hmn.out; omega
        · have := Hdf.out; simp; omega
      case measure => simp [intOf]; omega
end Go.Proofs.YthjpaclcoipocaaGreat
namespace Go.Proofs.YthjpaclcoipocaaGreat
open Go.RowKit Go.Lib

theorem bv_one (l : List Nat) : ∀ u ∈ bv l, u.oneCell' = true := by
  intro u hu
  simp only [bv, List.mem_map] at hu
  obtain ⟨x, _, rfl⟩ := hu
  rfl
/-- Bytes handed back in a row of the call's own. -/
def GivesB (w : World) (l : List Nat) (e : Ending) (w' : World) : Prop :=
  ∃ A n c, e = .returned (.slice A n c) ∧ w'.ownsRow w.heap.size 5 1 (.slice A n c) n (bv l) ∧ n = l.length ∧ Below w.heap.size w w'

set_option maxRecDepth 100000 in
set_option maxHeartbeats 1000000 in
theorem fresh_any (A : Option Addr) (n c more : Nat) (l : List Nat) (w : World) (hr : Rd w w.heap.size 1 A n (bv l)) (hn : n ≤ 1000000000) (hm : more ≤ 1000000000) :
    Calls Tryz.prog 49 #[.slice A n c, .int .i64 (more : Int)] w (GivesB w l) := by
  obtain ⟨i0, hi, hz0, hz1, hz2⟩ := info_parts info_u8
  have HI := Lib.hid (And.intro hi (And.intro hz0 (And.intro hz1 hz2))); clear hi hz0 hz1 hz2
  have hl : l.length = n := by have := hr.1; rw [bv_len] at this; omega
  have Hl := Lib.hid hl; have Hr := Lib.hid hr; clear hl hr
  go_enter Tryz.func49, Tryz.ntmps49
  go_wp2_with (first
    | (at_make; go_must (refine wpList_make_own w (by rfl) _ _ 24 (by rfl) w.heap.size 5 i0 (.int .u8 0) 1 Tryz.underlying24 HI.out.1 HI.out.2.1 HI.out.2.2.1 .i64 .i64 _ (n + more) (by rfl) (by rfl) (by simp) (by rw [HI.out.2.2.2]; omega) (by simp only [maxLen]; omega) (Nat.le_refl _) ?_); intro w1 hown1 hg1; have Hb1 := Lib.hid (below_of_grown hg1 (Nat.le_refl _) (by simp)); have Hown1 := Lib.hid hown1; clear hown1 hg1)
    | (at_builtin; go_must (refine wpList_append_rd w1 (by rfl) _ _ 24 (by rfl) w.heap.size 5 i0 (.int .u8 0) 1 1 Tryz.underlying24 HI.out rfl (by decide) _ _ _ (by rfl) Hown1.out w.heap.size A n c (bv l) (by rfl) (Hr.out.below Hb1.out (Nat.le_refl _)) (bv_one l) (by omega) (by omega) Hb1.out.size ?_); intro v2 w2 hown2 hb2; have Hown2 := Lib.hid hown2; have Hb2 := Lib.hid (Hb1.out.trans hb2); clear hown2 hb2))
  go_ret
  obtain ⟨A2, c2, rfl⟩ := own_form Hown2.out
  exact ⟨A2, 0 + n, c2, rfl, by simpa using Hown2.out, by rw [Hl.out]; simp, Hb2.out⟩

set_option maxRecDepth 100000 in
set_option maxHeartbeats 1000000 in
theorem putNum_any (A : Option Addr) (n c m : Nat) (l : List Nat) (w : World) (hr : Rd w w.heap.size 1 A n (bv l)) (hn : n ≤ 900000000) (hm : m < 18446744073709551616) :
    Calls Tryz.prog 28 #[.slice A n c, .int .u64 (m : Int)] w (GivesB w (l ++ encN m)) := by
  have Hr := Lib.hid hr; have Hm := Lib.hid hm; clear hr hm
  have hl : Hid (l.length = n) := by show _ = _; have := Hr.out.1; rw [bv_len] at this; omega
  go_enter Tryz.func28, Tryz.ntmps28
  go_wp2_with fail
  refine (fresh_any A n c 10 l w Hr.out (by omega) (by omega)).mono ?_
  rintro e w1 ⟨A1, n1, c1, rfl, hown1, hn1, hb1⟩
  have hn1' : n1 ≤ 1000000000 := by rw [hn1, hl.out]; omega
  have Hown1 := Lib.hid hown1; have Hn1 := Lib.hid hn1; have Hb1 := Lib.hid hb1; clear hown1 hn1 hb1
  go_wp2_with fail
  refine (number_any w.heap.size n1 c1 A1 m (bv l) w1 Hown1.out Hb1.out.size hn1' Hm.out).mono ?_
  rintro e w2 ⟨A2, c2, rfl, hown2, hb2⟩
  have Hown2 := Lib.hid hown2; have Hb2 := Lib.hid (Hb1.out.trans hb2); clear hown2 hb2
  go_wp2
  go_ret
  exact ⟨A2, _, c2, rfl, by rw [bv_append]; exact Hown2.out, by rw [Hn1.out, List.length_append], Hb2.out⟩
end Go.Proofs.YthjpaclcoipocaaGreat
namespace Go.Proofs.YthjpaclcoipocaaGreat
open Go.RowKit Go.Lib

/-- How many of the first bytes, ten at most, go on. -/
def goOn : Nat → List Nat → Nat
  | 0, _ => 0
  | _ + 1, [] => 0
  | f + 1, b :: l => if 128 ≤ b then goOn f l + 1 else 0
def valN : List Nat → Nat
  | [] => 0
  | b :: l => b % 128 + 128 * valN l
/-- The number, how many bytes it has, the error. -/
def lookN (l : List Nat) : Nat × Nat × Int :=
  let k := goOn 10 l
  if k = min l.length 10 then (0, 0, if l.length < 10 then 4 else 3)
  else if (0 < k ∧ l.getD k 0 = 0) ∨ (k = 9 ∧ 1 < l.getD k 0) then (0, 0, 3)
  else (valN (l.take (k + 1)), k + 1, 0)

theorem and127 {b : Nat} (h : b < 256) : bits BinOp.and IntKind.u8 (b : Int) 127 = ((b % 128 : Nat) : Int) := by
  have h2 : ∀ x : Fin 256, bits BinOp.and IntKind.u8 ((x.val : Nat) : Int) 127 = ((x.val % 128 : Nat) : Int) := by decide +kernel
  exact h2 ⟨b, h⟩
theorem bv_at {l : List Nat} {k : Nat} {u : Value} (h : (bv l)[k]? = some u) : u = .int .u8 ((l.getD k 0 : Nat) : Int) := by
  simp only [bv, List.getElem?_map, Option.map_eq_some_iff] at h
  obtain ⟨x, hx, rfl⟩ := h
  simp [List.getD_eq_getElem?_getD, hx]
theorem lookStep {x y k : Nat} (hk : k ≤ 8 ∨ (k ≤ 9 ∧ x < 2)) (hy : y < 128 ^ k) :
    bits BinOp.or IntKind.u64 (y : Int) (IntKind.u64.wrap ((x : Int) % 128 * 2 ^ (7 * k))) = ((y + 128 ^ k * (x % 128) : Nat) : Int) := by
  have e2 : (2 : Nat) ^ (7 * k) = 128 ^ k := by rw [Nat.pow_mul]
  have hb : 128 ^ k * (x % 128) ≤ 9223372036854775808 := by
    rcases hk with hk | ⟨hk, hx⟩
    · have h1 : 128 ^ k ≤ 128 ^ 8 := Nat.pow_le_pow_right (by omega) hk
      have h2 : x % 128 ≤ 127 := by omega
      have h3 := Nat.mul_le_mul h1 h2
      have h4 : 128 ^ 8 * 127 ≤ 9223372036854775808 := by decide
      omega
    · have h1 : 128 ^ k ≤ 128 ^ 9 := Nat.pow_le_pow_right (by omega) hk
      have h2 : x % 128 ≤ 1 := by omega
      have h3 := Nat.mul_le_mul h1 h2
      have h4 : 128 ^ 9 * 1 ≤ 9223372036854775808 := by decide
      omega
  have hy2 : y < 18446744073709551616 := by
    have h1 : 128 ^ k ≤ 128 ^ 9 := Nat.pow_le_pow_right (by omega) (by omega)
    have h4 : (128 : Nat) ^ 9 ≤ 18446744073709551615 := by decide
    omega
  have e3 : ((x : Int) % 128 * 2 ^ (7 * k)) = ((128 ^ k * (x % 128) : Nat) : Int) := by
    rw [← e2, Int.natCast_mul, Int.mul_comm, Int.natCast_pow]; rfl
  have e4 : IntKind.u64.wrap ((128 ^ k * (x % 128) : Nat) : Int) = ((128 ^ k * (x % 128) : Nat) : Int) := by
    rw [IntKind.wrap_u64]; omega
  rw [e3, e4, bits_or_u64_nat y _ hy2 (by omega)]
  congr 1
  have := Nat.two_pow_add_eq_or_of_lt (i := 7 * k) (b := y) (by rw [e2]; exact hy) (x % 128)
  rw [e2] at this
  rw [Nat.or_comm, ← this]; omega
theorem goOn_stop : ∀ (f : Nat) (l : List Nat) (k : Nat), k < f → k < l.length → (∀ j, j < k → 128 ≤ l.getD j 0) → l.getD k 0 < 128 → goOn f l = k := by
  intro f
  induction f with
  | zero => intro l k h; omega
  | succ f ih =>
    intro l k hf hl hall hk
    cases l with
    | nil => simp at hl
    | cons b l =>
      cases k with
      | zero => have hb : b < 128 := by simpa using hk
                simp [goOn, hb]
      | succ k =>
        have hb : 128 ≤ b := by simpa using hall 0 (by omega)
        rw [goOn, if_pos hb, ih l k (by omega) (by simpa using hl) (fun j hj => by simpa using hall (j + 1) (by omega)) (by simpa using hk)]
theorem goOn_end : ∀ (f : Nat) (l : List Nat), (∀ j, j < min l.length f → 128 ≤ l.getD j 0) → goOn f l = min l.length f := by
  intro f
  induction f with
  | zero => intro l _; simp [goOn]
  | succ f ih =>
    intro l hall
    cases l with
    | nil => simp [goOn]
    | cons b l =>
      have hb : 128 ≤ b := by simpa using hall 0 (by simp)
      rw [goOn, if_pos hb, ih l (fun j hj => by simpa using hall (j + 1) (by simp; omega))]
      simp
theorem valN_snoc (l : List Nat) (b : Nat) : valN (l ++ [b]) = valN l + 128 ^ l.length * (b % 128) := by
  induction l with
  | nil => simp [valN]
  | cons a l ih => simp only [List.cons_append, valN, ih, List.length_cons, Nat.pow_succ]; rw [Nat.mul_add]; rw [show 128 * (128 ^ l.length * (b % 128)) = 128 ^ l.length * 128 * (b % 128) by rw [Nat.mul_comm (128 ^ l.length) 128, Nat.mul_assoc]]; omega
theorem valN_lt (l : List Nat) : valN l < 128 ^ l.length := by
  induction l with
  | nil => simp [valN]
  | cons a l ih => simp only [valN, List.length_cons, Nat.pow_succ]; omega
theorem take_nat {l : List Nat} {k : Nat} (h : k < l.length) : l.take (k + 1) = l.take k ++ [l.getD k 0] := by
  rw [List.take_succ_eq_append_getElem h, List.getD_eq_getElem?_getD, List.getElem?_eq_getElem h]; rfl
theorem getD_memN {l : List Nat} {k : Nat} (h : k < l.length) : l.getD k 0 ∈ l := by
  rw [List.getD_eq_getElem?_getD, List.getElem?_eq_getElem h]; exact List.getElem_mem h

set_option maxRecDepth 100000 in
set_option maxHeartbeats 1000000 in
theorem look_any (A : Option Addr) (n c : Nat) (l : List Nat) (w : World) (hr : Rd w w.heap.size 1 A n (bv l)) (hn : n ≤ 1000000000) (hb : ∀ x ∈ l, x < 256) :
    Calls Tryz.prog 55 #[.slice A n c] w fun e w' => e = .returned (.tuple #[.int .u64 ((lookN l).1 : Int), .int .i64 ((lookN l).2.1 : Int), .int .i64 (lookN l).2.2]) ∧ w = w' := by
  have hl : l.length = n := by have := hr.1; rw [bv_len] at this; omega
  have Hl := Lib.hid hl
  have Hr := Lib.hid hr; have Hb := Lib.hid hb; clear hr hb hl
  by_cases h10 : n ≤ 10
  · have h10' : (n : Int) ≤ 10 := by omega
    go_enter Tryz.func55, Tryz.ntmps55
    go_wp2
    go_step3
    go_wp2
    go_step3
    go_wp2
    go_loop [5, 6, 11] (fun x la i => ∃ k y : Nat, k ≤ n ∧ i = .int .i64 k ∧ la = .int .i64 (-1) ∧ x = .int .u64 (y : Int) ∧ (k ≤ 9 → y = valN (l.take k)) ∧ (∀ j, j < k → 128 ≤ l.getD j 0)) (fun _ _ i => n - (intOf i).toNat)
    case atStart => exact ⟨0, 0, by omega, rfl, rfl, rfl, fun _ => by simp [valN], fun j hj => absurd hj (by omega)⟩
    case round =>
      obtain ⟨k, y, hk, rfl, rfl, rfl, hy, hge⟩ := hrel
      have Hy := Lib.hid hy; have Hge := Lib.hid hge; clear hy hge
      by_cases hlt : k < n
      · obtain ⟨b, o, u, rfl, hbB, hu, hcell⟩ := Hr.out.at_ (show k < n by omega) (show 0 < 1 by omega)
        simp only [Nat.mul_one, Nat.add_zero] at hu hcell
        obtain rfl := bv_at hu
        have hkl : k < l.length := by have := Hl.out; omega
        have hx : l.getD k 0 < 256 := Hb.out _ (getD_memN hkl)
        have Htk := Lib.hid (take_nat hkl)
        have Hkl := Lib.hid hkl
        clear hu hkl
        generalize hxk : l.getD k 0 = x at *
        have Hxk := Lib.hid hxk; clear hxk
        have ha := and127 hx
        have hi0 : (0 : Int) ≤ (k : Int) := by omega
        have hk9 : k ≤ 9 := by omega
        have Hstop : x < 128 → Hid (goOn 10 l = k) := fun h => goOn_stop 10 l k (by omega) Hkl.out Hge.out (by rw [Hxk.out]; exact h)
        have Hlt : Hid (¬ k = min l.length 10) := by show ¬ _; have := Hkl.out; omega
        by_cases h128 : x < 128
        · have hd : decide ((x : Int) < 128) = true := decide_eq_true (by omega)
          have Hgo := Hstop h128
          clear Hstop
          by_cases hbad : (0 < k ∧ x = 0) ∨ (k = 9 ∧ 1 < x)
          · have Hres : Hid (lookN l = (0, 0, 3)) := by
              show lookN l = _
              simp only [lookN, Hgo.out, if_neg Hlt.out, Hxk.out, if_pos hbad]
            rcases hbad with ⟨h1, h2⟩ | ⟨h1, h2⟩
            · subst h2
              clear h128 hd
              go_wp2
              first
                | go_ret3
                | (rw [Exit.noGoto_ret]; go_ret3)
              exact ⟨by rw [Hres.out]; rfl, rfl⟩
            · subst h1
              have hz : ((x : Int) == 0) = false := by simp; omega
              clear h128
              go_wp2
              first
                | go_ret3
                | (rw [Exit.noGoto_ret]; go_ret3)
              exact ⟨by rw [Hres.out]; rfl, rfl⟩
          · have Hval : Hid (valN (l.take (k + 1)) = y + 128 ^ k * (x % 128)) := by
              show _ = _
              rw [Htk.out, valN_snoc, ← Hy.out hk9]
              have : (l.take k).length = k := by have := Hkl.out; simp; omega
              rw [this]
            have Hres : Hid (lookN l = (y + 128 ^ k * (x % 128), k + 1, 0)) := by
              show lookN l = _
              simp only [lookN, Hgo.out, if_neg Hlt.out, Hxk.out, if_neg hbad, Hval.out]
            have Hst : Hid (bits BinOp.or IntKind.u64 (y : Int) (IntKind.u64.wrap ((x : Int) % 128 * 2 ^ (7 * k))) = ((y + 128 ^ k * (x % 128) : Nat) : Int)) :=
              lookStep (by omega) (by rw [Hy.out hk9]; have := valN_lt (l.take k); have e : (l.take k).length = k := by { have := Hkl.out; simp; omega }; rw [e] at this; exact this)
            by_cases hk0 : k = 0
            · have hq : decide ((0 : Int) < (k : Int)) = false := decide_eq_false (by omega)
              have hqi : (k : Int) ≤ 0 := by omega
              have hq9 : ((k : Int) == 9) = false := by simp; omega
              clear hbad hk0
              go_wp2
              go_ret3
              refine ⟨?_, rfl⟩
              rw [Hres.out, ← Hst.out]
              rfl
            · have hq : decide ((0 : Int) < (k : Int)) = true := decide_eq_true (by omega)
              have hqi : (0 : Int) < (k : Int) := by omega
              have hz : ((x : Int) == 0) = false := by simp; omega
              have hzi : (0 : Int) < (x : Int) := by omega
              by_cases hk9' : k = 9
              · have hq9 : ((k : Int) == 9) = true := by simp; omega
                have h1 : decide ((1 : Int) < (x : Int)) = false := decide_eq_false (by omega)
                clear hbad hk0 hk9'
                go_wp2
                go_ret3
                refine ⟨?_, rfl⟩
                rw [Hres.out, ← Hst.out]
                rfl
              · have hq9 : ((k : Int) == 9) = false := by simp; omega
                clear hbad hk0 hk9'
                go_wp2
                go_ret3
                refine ⟨?_, rfl⟩
                rw [Hres.out, ← Hst.out]
                rfl
        · have hd : decide ((x : Int) < 128) = false := decide_eq_false (by omega)
          have Hnew : Hid (∃ z : Nat, bits BinOp.or IntKind.u64 (y : Int) (IntKind.u64.wrap ((x : Int) % 128 * 2 ^ (7 * k))) = (z : Int) ∧ (k + 1 ≤ 9 → z = valN (l.take (k + 1)))) := by
            show ∃ _, _
            by_cases hk8 : k ≤ 8
            · refine ⟨y + 128 ^ k * (x % 128), lookStep (.inl hk8) ?_, fun _ => ?_⟩
              · rw [Hy.out hk9]
                have h := valN_lt (l.take k)
                have e : (l.take k).length = k := by have := Hkl.out; simp; omega
                rw [e] at h; exact h
              · rw [Htk.out, valN_snoc, ← Hy.out hk9]
                have : (l.take k).length = k := by have := Hkl.out; simp; omega
                rw [this]
            · obtain ⟨z, hz⟩ := Int.eq_ofNat_of_zero_le (bits_within BinOp.or IntKind.u64 (y : Int) (IntKind.u64.wrap ((x : Int) % 128 * 2 ^ (7 * k)))).1
              exact ⟨z, hz, fun h => by omega⟩
          have Hge2 : Hid (∀ j, j < k + 1 → 128 ≤ l.getD j 0) := by
            show ∀ _, _
            intro j hj
            rcases Nat.lt_or_ge j k with h1 | h1
            · exact Hge.out j h1
            · obtain rfl : j = k := by omega
              rw [Hxk.out]; omega
          clear Hstop
          go_wp2
          go_round
          case rel =>
            obtain ⟨z, hz, hv⟩ := Hnew.out
            exact ⟨k + 1, z, by omega, by go_num, rfl, by rw [← hz], hv, Hge2.out⟩
          case measure => simp [intOf]; omega
      · have hkm : k = n := by omega
        have Hgo : Hid (goOn 10 l = min l.length 10) := goOn_end 10 l (fun j hj => Hge.out j (by have := Hl.out; omega))
        by_cases hs : n < 10
        · have Hres : Hid (lookN l = (0, 0, 4)) := by
            show lookN l = _
            have := Hl.out
            simp only [lookN, Hgo.out, if_true]
            rw [if_pos (by omega)]
          have hsi : decide ((n : Int) < 10) = true := decide_eq_true (by omega)
          go_wp2
          first
            | go_ret3
            | (rw [Exit.noGoto_ret]; go_ret3)
          exact ⟨by rw [Hres.out]; rfl, rfl⟩
        · have Hres : Hid (lookN l = (0, 0, 3)) := by
            show lookN l = _
            have := Hl.out
            simp only [lookN, Hgo.out, if_true]
            rw [if_neg (by omega)]
          have hsi : decide ((n : Int) < 10) = false := decide_eq_false (by omega)
          go_wp2
          first
            | go_ret3
            | (rw [Exit.noGoto_ret]; go_ret3)
          exact ⟨by rw [Hres.out]; rfl, rfl⟩
  · have h10' : (10 : Int) < (n : Int) := by omega
    go_enter Tryz.func55, Tryz.ntmps55
    go_wp2
    go_step3
    go_wp2
    go_step3
    go_wp2
    go_loop [5, 6, 11] (fun x la i => ∃ k y : Nat, k ≤ 10 ∧ i = .int .i64 k ∧ la = .int .i64 (-1) ∧ x = .int .u64 (y : Int) ∧ (k ≤ 9 → y = valN (l.take k)) ∧ (∀ j, j < k → 128 ≤ l.getD j 0)) (fun _ _ i => 10 - (intOf i).toNat)
    case atStart => exact ⟨0, 0, by omega, rfl, rfl, rfl, fun _ => by simp [valN], fun j hj => absurd hj (by omega)⟩
    case round =>
      obtain ⟨k, y, hk, rfl, rfl, rfl, hy, hge⟩ := hrel
      have Hy := Lib.hid hy; have Hge := Lib.hid hge; clear hy hge
      by_cases hlt : k < 10
      · obtain ⟨b, o, u, rfl, hbB, hu, hcell⟩ := Hr.out.at_ (show k < n by omega) (show 0 < 1 by omega)
        simp only [Nat.mul_one, Nat.add_zero] at hu hcell
        obtain rfl := bv_at hu
        have hkl : k < l.length := by have := Hl.out; omega
        have hx : l.getD k 0 < 256 := Hb.out _ (getD_memN hkl)
        have Htk := Lib.hid (take_nat hkl)
        have Hkl := Lib.hid hkl
        clear hu hkl
        generalize hxk : l.getD k 0 = x at *
        have Hxk := Lib.hid hxk; clear hxk
        have ha := and127 hx
        have hi0 : (0 : Int) ≤ (k : Int) := by omega
        have hk9 : k ≤ 9 := by omega
        have Hstop : x < 128 → Hid (goOn 10 l = k) := fun h => goOn_stop 10 l k (by omega) Hkl.out Hge.out (by rw [Hxk.out]; exact h)
        have Hlt : Hid (¬ k = min l.length 10) := by show ¬ _; have := Hkl.out; omega
        by_cases h128 : x < 128
        · have hd : decide ((x : Int) < 128) = true := decide_eq_true (by omega)
          have Hgo := Hstop h128
          clear Hstop
          by_cases hbad : (0 < k ∧ x = 0) ∨ (k = 9 ∧ 1 < x)
          · have Hres : Hid (lookN l = (0, 0, 3)) := by
              show lookN l = _
              simp only [lookN, Hgo.out, if_neg Hlt.out, Hxk.out, if_pos hbad]
            rcases hbad with ⟨h1, h2⟩ | ⟨h1, h2⟩
            · subst h2
              clear h128 hd
              go_wp2
              first
                | go_ret3
                | (rw [Exit.noGoto_ret]; go_ret3)
              exact ⟨by rw [Hres.out]; rfl, rfl⟩
            · subst h1
              have hz : ((x : Int) == 0) = false := by simp; omega
              clear h128
              go_wp2
              first
                | go_ret3
                | (rw [Exit.noGoto_ret]; go_ret3)
              exact ⟨by rw [Hres.out]; rfl, rfl⟩
          · have Hval : Hid (valN (l.take (k + 1)) = y + 128 ^ k * (x % 128)) := by
              show _ = _
              rw [Htk.out, valN_snoc, ← Hy.out hk9]
              have : (l.take k).length = k := by have := Hkl.out; simp; omega
              rw [this]
            have Hres : Hid (lookN l = (y + 128 ^ k * (x % 128), k + 1, 0)) := by
              show lookN l = _
              simp only [lookN, Hgo.out, if_neg Hlt.out, Hxk.out, if_neg hbad, Hval.out]
            have Hst : Hid (bits BinOp.or IntKind.u64 (y : Int) (IntKind.u64.wrap ((x : Int) % 128 * 2 ^ (7 * k))) = ((y + 128 ^ k * (x % 128) : Nat) : Int)) :=
              lookStep (by omega) (by rw [Hy.out hk9]; have := valN_lt (l.take k); have e : (l.take k).length = k := by { have := Hkl.out; simp; omega }; rw [e] at this; exact this)
            by_cases hk0 : k = 0
            · have hq : decide ((0 : Int) < (k : Int)) = false := decide_eq_false (by omega)
              have hqi : (k : Int) ≤ 0 := by omega
              have hq9 : ((k : Int) == 9) = false := by simp; omega
              clear hbad hk0
              go_wp2
              go_ret3
              refine ⟨?_, rfl⟩
              rw [Hres.out, ← Hst.out]
              rfl
            · have hq : decide ((0 : Int) < (k : Int)) = true := decide_eq_true (by omega)
              have hqi : (0 : Int) < (k : Int) := by omega
              have hz : ((x : Int) == 0) = false := by simp; omega
              have hzi : (0 : Int) < (x : Int) := by omega
              by_cases hk9' : k = 9
              · have hq9 : ((k : Int) == 9) = true := by simp; omega
                have h1 : decide ((1 : Int) < (x : Int)) = false := decide_eq_false (by omega)
                clear hbad hk0 hk9'
                go_wp2
                go_ret3
                refine ⟨?_, rfl⟩
                rw [Hres.out, ← Hst.out]
                rfl
              · have hq9 : ((k : Int) == 9) = false := by simp; omega
                clear hbad hk0 hk9'
                go_wp2
                go_ret3
                refine ⟨?_, rfl⟩
                rw [Hres.out, ← Hst.out]
                rfl
        · have hd : decide ((x : Int) < 128) = false := decide_eq_false (by omega)
          have Hnew : Hid (∃ z : Nat, bits BinOp.or IntKind.u64 (y : Int) (IntKind.u64.wrap ((x : Int) % 128 * 2 ^ (7 * k))) = (z : Int) ∧ (k + 1 ≤ 9 → z = valN (l.take (k + 1)))) := by
            show ∃ _, _
            by_cases hk8 : k ≤ 8
            · refine ⟨y + 128 ^ k * (x % 128), lookStep (.inl hk8) ?_, fun _ => ?_⟩
              · rw [Hy.out hk9]
                have h := valN_lt (l.take k)
                have e : (l.take k).length = k := by have := Hkl.out; simp; omega
                rw [e] at h; exact h
              · rw [Htk.out, valN_snoc, ← Hy.out hk9]
                have : (l.take k).length = k := by have := Hkl.out; simp; omega
                rw [this]
            · obtain ⟨z, hz⟩ := Int.eq_ofNat_of_zero_le (bits_within BinOp.or IntKind.u64 (y : Int) (IntKind.u64.wrap ((x : Int) % 128 * 2 ^ (7 * k)))).1
              exact ⟨z, hz, fun h => by omega⟩
          have Hge2 : Hid (∀ j, j < k + 1 → 128 ≤ l.getD j 0) := by
            show ∀ _, _
            intro j hj
            rcases Nat.lt_or_ge j k with h1 | h1
            · exact Hge.out j h1
            · obtain rfl : j = k := by omega
              rw [Hxk.out]; omega
          clear Hstop
          go_wp2
          go_round
          case rel =>
            obtain ⟨z, hz, hv⟩ := Hnew.out
            exact ⟨k + 1, z, by omega, by go_num, rfl, by rw [← hz], hv, Hge2.out⟩
          case measure => simp [intOf]; omega
      · have hkm : k = 10 := by omega
        have Hgo : Hid (goOn 10 l = min l.length 10) := goOn_end 10 l (fun j hj => Hge.out j (by have := Hl.out; omega))
        by_cases hs : n < 10
        · have Hres : Hid (lookN l = (0, 0, 4)) := by
            show lookN l = _
            have := Hl.out
            simp only [lookN, Hgo.out, if_true]
            rw [if_pos (by omega)]
          have hsi : decide ((n : Int) < 10) = true := decide_eq_true (by omega)
          go_wp2
          first
            | go_ret3
            | (rw [Exit.noGoto_ret]; go_ret3)
          exact ⟨by rw [Hres.out]; rfl, rfl⟩
        · have Hres : Hid (lookN l = (0, 0, 3)) := by
            show lookN l = _
            have := Hl.out
            simp only [lookN, Hgo.out, if_true]
            rw [if_neg (by omega)]
          have hsi : decide ((n : Int) < 10) = false := decide_eq_false (by omega)
          go_wp2
          first
            | go_ret3
            | (rw [Exit.noGoto_ret]; go_ret3)
          exact ⟨by rw [Hres.out]; rfl, rfl⟩
end Go.Proofs.YthjpaclcoipocaaGreat
namespace Go.Proofs.YthjpaclcoipocaaGreat
open Go.RowKit Go.Lib

/-- What one read of a number comes to: how many bytes, the error, the number. -/
def take1 (l : List Nat) (most : Nat) : Nat × Int × Nat :=
  if (lookN l).2.2 ≠ 0 then (0, (lookN l).2.2, 0) else if most < (lookN l).1 then (0, 2, 0) else ((lookN l).2.1, 0, (lookN l).1)
set_option maxRecDepth 100000 in
set_option maxHeartbeats 1000000 in
theorem num1_bad (A : Option Addr) (n c most : Nat) (b3 b5 : Nat) (l : List Nat) (w : World) (hr : Rd w w.heap.size 1 A n (bv l)) (hn : n ≤ 1000000000) (hb : ∀ x ∈ l, x < 256)
    (h3 : w.cell? ⟨b3, 0, none⟩ = some (.int .u64 (most : Int))) (he : (take1 l most).2.1 ≠ 0) :
    Calls Tryz.prog 54 #[.slice A n c, .pointer (some ⟨b3, 0, none⟩), .pointer (some ⟨b5, 0, none⟩)] w fun e w' => e = .returned (.tuple #[.int .i64 0, .int .i64 (take1 l most).2.1]) ∧ w = w' := by
  have Hr := Lib.hid hr; have Hb := Lib.hid hb; clear hr hb
  by_cases h1 : (lookN l).2.2 ≠ 0
  · have hne : ((lookN l).2.2 != 0) = true := by simpa using h1
    have Ht : Hid ((take1 l most).2.1 = (lookN l).2.2) := by show _ = _; unfold take1; rw [if_pos h1]
    clear h1 he
    go_enter Tryz.func54, Tryz.ntmps54
    go_wp2_with (go_at_call 55; refine (look_any A n c l w Hr.out hn Hb.out).mono ?_; rintro e w' ⟨rfl, rfl⟩)
    go_ret2
    exact ⟨by rw [Ht.out]; rfl, rfl⟩
  · have h0 : (lookN l).2.2 = 0 := by simpa using h1
    have h2 : most < (lookN l).1 := by
      unfold take1 at he
      rw [if_neg h1] at he
      split at he
      · assumption
      · simp at he
    have hne : ((lookN l).2.2 != 0) = false := by simpa using h0
    have hgt : decide ((most : Int) < ((lookN l).1 : Int)) = true := decide_eq_true (by omega)
    have Ht : Hid ((take1 l most).2.1 = 2) := by show _ = _; unfold take1; rw [if_neg h1, if_pos h2]
    clear h1 he h0
    go_enter Tryz.func54, Tryz.ntmps54
    go_wp2_with (go_at_call 55; refine (look_any A n c l w Hr.out hn Hb.out).mono ?_; rintro e w' ⟨rfl, rfl⟩)
    go_ret2
    exact ⟨by rw [Ht.out]; rfl, rfl⟩
set_option maxRecDepth 100000 in
set_option maxHeartbeats 1000000 in
theorem num1_good (A : Option Addr) (n c most : Nat) (b3 b5 : Nat) (v0 : Value) (l : List Nat) (w : World) (hr : Rd w w.heap.size 1 A n (bv l)) (hn : n ≤ 1000000000) (hb : ∀ x ∈ l, x < 256)
    (h3 : w.cell? ⟨b3, 0, none⟩ = some (.int .u64 (most : Int))) (h5 : w.cell? ⟨b5, 0, none⟩ = some v0) (hf : w.frozen? ⟨b5, 0, none⟩ = false) (he : (take1 l most).2.1 = 0) :
    Calls Tryz.prog 54 #[.slice A n c, .pointer (some ⟨b3, 0, none⟩), .pointer (some ⟨b5, 0, none⟩)] w fun e w' =>
      e = .returned (.tuple #[.int .i64 ((take1 l most).1 : Int), .int .i64 0]) ∧ w' = w.setCell ⟨b5, 0, none⟩ (.int .u64 ((take1 l most).2.2 : Int)) := by
  have Hr := Lib.hid hr; have Hb := Lib.hid hb; clear hr hb
  have h1 : (lookN l).2.2 = 0 := by
    unfold take1 at he
    split at he
    · exact he
    · rename_i h; simpa using h
  have h2 : (lookN l).1 ≤ most := by
    unfold take1 at he
    rw [if_neg (by simp [h1])] at he
    split at he
    · simp at he
    · omega
  have Ht : Hid (take1 l most = ((lookN l).2.1, 0, (lookN l).1)) := by
    show _ = _
    unfold take1; rw [if_neg (by simp [h1]), if_neg (by omega)]
  have hne : ((lookN l).2.2 != 0) = false := by simpa using h1
  have hgt : decide ((most : Int) < ((lookN l).1 : Int)) = false := decide_eq_false (by omega)
  clear h1 he
  go_enter Tryz.func54, Tryz.ntmps54
  go_wp2_with (go_at_call 55; refine (look_any A n c l w Hr.out hn Hb.out).mono ?_; rintro e w' ⟨rfl, rfl⟩)
  go_ret2
  exact ⟨by rw [Ht.out]; rfl, by rw [Ht.out]⟩

theorem read_skip (b : Nat) (A : Option Addr) (n c at_ : Nat) (err : Int) (F : Value) (w : World) (h : w.heap[b]? = some (.cells #[.slice A n c, .int .i64 (at_ : Int), .int .i64 err] 107 (0, 0))) (he : err ≠ 0) :
    Calls Tryz.prog 53 #[.pointer (some ⟨b, 0, none⟩), F] w fun e w' => e = .returned (.tuple #[]) ∧ w = w' := by
  have h2 := block_cell h 2
  simp at h2
  have he' : (err != 0) = true := by simpa using he
  clear h he
  go_enter Tryz.func53, Tryz.ntmps53
  go_wp2
  refine bodyPost_ret (results_none rfl _ _ _) rfl ?_
  exact ⟨rfl, rfl⟩
set_option maxRecDepth 100000 in
set_option maxHeartbeats 1000000 in
theorem readNum_good (b k n c at_ : Nat) (A A2 : Option Addr) (V1 V2 : Value) (R : World → Prop) (w : World) (h : w.heap[b]? = some (.cells #[.slice A n c, .int .i64 (at_ : Int), .int .i64 0] 107 (0, 0)))
   (hl : at_ + k ≤ n) (hn : n ≤ 1000000000)
   (hrun : ∀ w', (Instr.sliceAt 24 (.slice A n c) (some (.int .i64 (at_ : Int))) none none).run Tryz.prog w' = .ok (.slice A2 (n - at_) (c - at_)) w')
   (hR : ∀ w', R w' → w'.heap[b]? = some (.cells #[.slice A n c, .int .i64 (at_ : Int), .int .i64 0] 107 (0, 0)))
   (hcall : Calls Tryz.prog 54 #[.slice A2 (n - at_) (c - at_), V1, V2] w.drew fun e w' => e = .returned (.tuple #[.int .i64 (k : Int), .int .i64 0]) ∧ R w') :
    Calls Tryz.prog 53 #[.pointer (some ⟨b, 0, none⟩), .func (.func 54) #[] #[V1, V2]] w fun e w' => e = .returned (.tuple #[]) ∧ ∃ w2, R w2 ∧ w' = w2.setCell ⟨b, 1, none⟩ (.int .i64 ((at_ : Int) + (k : Int))) := by
  have h0 := block_cell h 0
  have h1 := block_cell h 1
  have h2 := block_cell h 2
  simp at h0 h1 h2
  have Hc := Lib.hid hcall
  have HR := Lib.hid hR
  clear hcall hR h
  have hl' : (at_ : Int) + (k : Int) ≤ (n : Int) := by omega
  go_enter Tryz.func53, Tryz.ntmps53
  go_wp2
  go_region_held3 (fun w' => w'.cell? ⟨b, 0, none⟩ = some (.slice A n c) ∧ w'.cell? ⟨b, 1, none⟩ = some (.int .i64 at_)) (first | exact ⟨h0, h1⟩ | exact ⟨f0, f1⟩ | go_keep) (first | (go_at_call 54; refine Hc.out.mono ?_; rintro e w2 ⟨rfl, hr⟩; have f0 := block_cell (HR.out _ hr) 0; have f1 := block_cell (HR.out _ hr) 1; simp at f0 f1; have Hr := Lib.hid hr; clear hr))
  have f2 := block_free (HR.out _ Hr.out) 1
  go_wp2
  go_end0
  exact ⟨rfl, _, Hr.out, rfl⟩
set_option maxRecDepth 100000 in
set_option maxHeartbeats 1000000 in
theorem readNum_bad (b n c at_ : Nat) (err : Int) (A A2 : Option Addr) (V1 V2 : Value) (R : World → Prop) (w : World) (h : w.heap[b]? = some (.cells #[.slice A n c, .int .i64 (at_ : Int), .int .i64 0] 107 (0, 0)))
   (_hl : at_ ≤ n) (_hn : n ≤ 1000000000) (he : err ≠ 0)
   (hrun : ∀ w', (Instr.sliceAt 24 (.slice A n c) (some (.int .i64 (at_ : Int))) none none).run Tryz.prog w' = .ok (.slice A2 (n - at_) (c - at_)) w')
   (hR : ∀ w', R w' → w'.heap[b]? = some (.cells #[.slice A n c, .int .i64 (at_ : Int), .int .i64 0] 107 (0, 0)))
   (hcall : Calls Tryz.prog 54 #[.slice A2 (n - at_) (c - at_), V1, V2] w.drew fun e w' => e = .returned (.tuple #[.int .i64 0, .int .i64 err]) ∧ R w') :
    Calls Tryz.prog 53 #[.pointer (some ⟨b, 0, none⟩), .func (.func 54) #[] #[V1, V2]] w fun e w' => e = .returned (.tuple #[]) ∧ ∃ w2, R w2 ∧ w' = w2.setCell ⟨b, 2, none⟩ (.int .i64 err) := by
  have h0 := block_cell h 0
  have h1 := block_cell h 1
  have h2 := block_cell h 2
  simp at h0 h1 h2
  have Hc := Lib.hid hcall
  have HR := Lib.hid hR
  have he' : (err != 0) = true := by simpa using he
  clear hcall hR h he
  go_enter Tryz.func53, Tryz.ntmps53
  go_wp2
  go_region_held3 (fun w' => w'.cell? ⟨b, 0, none⟩ = some (.slice A n c) ∧ w'.cell? ⟨b, 1, none⟩ = some (.int .i64 at_)) (first | exact ⟨h0, h1⟩ | exact ⟨f0, f1⟩ | go_keep) (first | (go_at_call 54; refine Hc.out.mono ?_; rintro e w2 ⟨rfl, hr⟩; have f0 := block_cell (HR.out _ hr) 0; have f1 := block_cell (HR.out _ hr) 1; simp at f0 f1; have Hr := Lib.hid hr; clear hr))
  have f2 := block_free (HR.out _ Hr.out) 2
  have f3 := block_cell (HR.out _ Hr.out) 2
  simp at f3
  go_wp2
  refine bodyPost_ret (results_none rfl _ _ _) rfl ?_
  exact ⟨rfl, _, Hr.out, rfl⟩

/-- A reader: all its bytes, how far it is, its error. -/
structure RS where
  l : List Nat
  at_ : Nat
  err : Int
/-- The reader's state lies in block b. -/
def RdAt (w : World) (b : Nat) (s : RS) : Prop :=
  ∃ A n c, w.heap[b]? = some (.cells #[.slice A n c, .int .i64 (s.at_ : Int), .int .i64 s.err] 107 (0, 0)) ∧ Rd w b 1 A n (bv s.l) ∧ n ≤ c ∧ s.at_ ≤ n ∧ n ≤ 1000000000 ∧ ∀ x ∈ s.l, x < 256
theorem RdAt.lt {w : World} {b : Nat} {s : RS} (h : RdAt w b s) : b < w.heap.size := by
  obtain ⟨A, n, c, h1, _⟩ := h
  exact block_lt h1
theorem RdAt.same {w w' : World} {b : Nat} {s : RS} (h : RdAt w b s) (hk : ∀ k, k ≤ b → w'.heap[k]? = w.heap[k]?) : RdAt w' b s := by
  obtain ⟨A, n, c, h1, h2, h3⟩ := h
  exact ⟨A, n, c, (hk b (Nat.le_refl _)).trans h1, h2.keep fun b' o' hb => World.cell?_of_block (hk b' (by omega)), h3⟩
theorem RdAt.below {w w' : World} {b B : Nat} {s : RS} (h : RdAt w b s) (hb : Below B w w') (hB : b < B) : RdAt w' b s := h.same fun k hk => hb.block k (by omega)
theorem RdAt.grown {w w' : World} {b g : Nat} {s : RS} (h : RdAt w b s) (hg : w.grownBy w' (some g)) (hne : b < g) : RdAt w' b s :=
  h.same fun k hk => hg.block k (by have := h.lt; omega) (by intro e; injection e with e; omega)
def numRS (s : RS) (most : Nat) : RS × Nat :=
  if s.err ≠ 0 then (s, 0)
  else if (take1 (s.l.drop s.at_) most).2.1 ≠ 0 then (⟨s.l, s.at_, (take1 (s.l.drop s.at_) most).2.1⟩, 0)
  else (⟨s.l, s.at_ + (take1 (s.l.drop s.at_) most).1, 0⟩, (take1 (s.l.drop s.at_) most).2.2)
theorem goOn_le : ∀ (f : Nat) (l : List Nat), goOn f l ≤ min l.length f := by
  intro f
  induction f with
  | zero => intro l; simp [goOn]
  | succ f ih =>
    intro l
    cases l with
    | nil => simp [goOn]
    | cons b l =>
      unfold goOn
      split
      · have := ih l; simp; omega
      · simp
theorem lookN_len (l : List Nat) : (lookN l).2.1 ≤ l.length := by
  have h := goOn_le 10 l
  unfold lookN
  simp only
  split
  · simp
  · split
    · simp
    · rename_i h1 _; simp only; omega
theorem take1_len (l : List Nat) (most : Nat) : (take1 l most).1 ≤ l.length := by
  unfold take1
  split
  · simp
  · split
    · simp
    · exact lookN_len l
theorem bv_drop (l : List Nat) (k : Nat) : bv (l.drop k) = (bv l).drop k := by simp [bv]
theorem bv_take (l : List Nat) (k : Nat) : bv (l.take k) = (bv l).take k := by simp [bv]
theorem elem_u8 : Tryz.prog.underlying 24 = some (.slice (Tryz.prog.elem 24)) := by kernel_rfl
theorem sizeOf_u8 : ∀ w', (sizeOf (Tryz.prog.elem 24)).run Tryz.prog w' = .ok 1 w' := fun w' => by kernel_rfl
theorem grown_alloc (w : World) (o : Obj) (r : Option Nat) : w.grownBy (w.alloc o) r := ⟨rfl, rfl, rfl, by simp, fun k hk _ => Below.heap_alloc w o k hk⟩
theorem grown_set {w : World} (b i : Nat) (v : Value) : w.grownBy (w.setCell ⟨b, i, none⟩ v) (some b) :=
  ⟨rfl, rfl, rfl, by simp, fun k _ hne => Below.heap_setCell w ⟨b, i, none⟩ v k (fun e => hne (by rw [e]))⟩
theorem grown_set_new {w w' : World} {r : Option Nat} (h : w.grownBy w' r) {b : Nat} (hb : w.heap.size ≤ b) (i : Nat) (v : Value) : w.grownBy (w'.setCell ⟨b, i, none⟩ v) r :=
  ⟨h.os, h.tape, h.output, by simpa using h.size, fun k hk hne => (Below.heap_setCell w' ⟨b, i, none⟩ v k (by show k ≠ b; omega)).trans (h.block k hk hne)⟩
theorem grown_drew {w w' : World} {r : Option Nat} (h : w.grownBy w' r) : w.grownBy w'.drew r := ⟨h.os, h.tape, h.output, h.size, h.block⟩
theorem grown_trans {w w' w'' : World} {r : Option Nat} (h : w.grownBy w' r) (h2 : w'.grownBy w'' r) : w.grownBy w'' r :=
  ⟨h2.os.trans h.os, h2.tape.trans h.tape, h2.output.trans h.output, Nat.le_trans h.size h2.size, fun k hk hne => (h2.block k (by have := h.size; omega) hne).trans (h.block k hk hne)⟩
theorem grown_of_below {w w' : World} {r : Option Nat} (h : Below w.heap.size w w') : w.grownBy w' r := ⟨h.os, h.tape, h.output, h.size, fun k hk _ => h.block k hk⟩

set_option maxRecDepth 100000 in
set_option maxHeartbeats 1000000 in
theorem num_any (b most : Nat) (s : RS) (w : World) (h : RdAt w b s) :
    Calls Tryz.prog 41 #[.pointer (some ⟨b, 0, none⟩), .int .u64 (most : Int)] w fun e w' => e = .returned (.int .u64 ((numRS s most).2 : Int)) ∧ RdAt w' b (numRS s most).1 ∧ w.grownBy w' (some b) := by
  have hb := h.lt
  obtain ⟨A, n, c, h1, h2, h3, h4, h5, h6⟩ := h
  obtain ⟨l, at_, err⟩ := s
  simp only at h1 h2 h4 h6
  have H1 := Lib.hid h1
  have H2 := Lib.hid h2
  have H6 := Lib.hid h6
  clear h1 h2 h6
  have H1a : Hid (((w.alloc (.cells #[.int .u64 (most : Int)] 80)).alloc (.cells #[.int .u64 0] 80)).heap[b]? = some (.cells #[.slice A n c, .int .i64 (at_ : Int), .int .i64 err] 107 (0, 0))) := block_alloc (block_alloc H1.out _) _
  by_cases he : err = 0
  · subst he
    obtain ⟨A2, hrun, hrd⟩ := slice_from elem_u8 sizeOf_u8 H2.out h3 h4
    have Hrun := Lib.hid hrun
    have Hrd : Hid (Rd w b 1 A2 (n - at_) (bv (l.drop at_))) := by show Rd _ _ _ _ _ _; rw [bv_drop]; simpa using hrd
    have Hnum : Hid (numRS ⟨l, at_, 0⟩ most = _) := Lib.hid (by unfold numRS; rw [if_neg (by simp)])
    clear hrun hrd
    have hln : l.length = n := by have := H2.out.1; rw [bv_len] at this; omega
    have Hsm : Hid (∀ x ∈ l.drop at_, x < 256) := fun x hx => H6.out x (List.mem_of_mem_drop hx)
    have Hlen : (take1 (l.drop at_) most).1 ≤ n - at_ := by have := take1_len (l.drop at_) most; rw [List.length_drop, hln] at this; exact this
    by_cases ht : (take1 (l.drop at_) most).2.1 = 0
    · have Ht := Lib.hid ht
      have Hnum2 : Hid (numRS ⟨l, at_, 0⟩ most = (⟨l, at_ + (take1 (l.drop at_) most).1, 0⟩, (take1 (l.drop at_) most).2.2)) := by show _ = _; rw [Hnum.out, if_neg (by simpa using Ht.out)]
      clear ht Hnum hln
      go_enter Tryz.func41, Tryz.ntmps41
      go_wp2_with fail
      refine (readNum_good b (take1 (l.drop at_) most).1 n c at_ A A2 _ _ (fun w' => w' = (((w.alloc (.cells #[.int .u64 (most : Int)] 80)).alloc (.cells #[.int .u64 0] 80)).drew.setCell ⟨w.heap.size + 1, 0, none⟩ (.int .u64 ((take1 (l.drop at_) most).2.2 : Int)))) _ H1a.out (by omega) h5 Hrun.out ?_ ?_).mono ?_
      · rintro w' rfl
        rw [Below.heap_setCell _ _ _ _ (by show b ≠ w.heap.size + 1; omega)]
        exact H1a.out
      · refine (num1_good A2 (n - at_) (c - at_) most w.heap.size (w.heap.size + 1) (.int .u64 0) (l.drop at_) _ ?_ (by omega) Hsm.out ?_ ?_ ?_ Ht.out)
        · exact ((((Hrd.out.more (by omega)).alloc (Nat.le_refl _) _).alloc (by simp) _).drew).more (by simp; omega)
        · simp [go_sem]
        · simp [go_sem]
        · simp [go_sem]
      · rintro e w' ⟨rfl, w2, rfl, rfl⟩
        have hne : (w.heap.size + 1) ≠ b := by omega
        generalize (take1 (l.drop at_) most).2.2 = v at *
        generalize hk : (take1 (l.drop at_) most).1 = k at *
        have hc9 : (((w.alloc (.cells #[.int .u64 (most : Int)] 80)).alloc (.cells #[.int .u64 0] 80)).drew.setCell ⟨w.heap.size + 1, 0, none⟩ (.int .u64 (v : Int))).heap[w.heap.size + 1]? = some (.cells #[.int .u64 (v : Int)] 80 (0, 0)) := by
          have := Joins.block_setCell (w := ((w.alloc (.cells #[.int .u64 (most : Int)] 80)).alloc (.cells #[.int .u64 0] 80)).drew) (g := w.heap.size + 1) (i := 0) (cs := #[.int .u64 0]) (t := 80) (fr := (0, 0)) (by have := heap_alloc_new (w.alloc (.cells #[.int .u64 (most : Int)] 80)) (.cells #[.int .u64 0] 80); rw [World.size_alloc] at this; exact this) (.int .u64 (v : Int))
          simpa using this
        have hb9 : (((w.alloc (.cells #[.int .u64 (most : Int)] 80)).alloc (.cells #[.int .u64 0] 80)).drew.setCell ⟨w.heap.size + 1, 0, none⟩ (.int .u64 (v : Int))).heap[b]? = some (.cells #[.slice A n c, .int .i64 (at_ : Int), .int .i64 0] 107 (0, 0)) := by
          rw [Below.heap_setCell _ _ _ _ (by show b ≠ w.heap.size + 1; omega)]; exact H1a.out
        have hg9 : w.grownBy (((w.alloc (.cells #[.int .u64 (most : Int)] 80)).alloc (.cells #[.int .u64 0] 80)).drew.setCell ⟨w.heap.size + 1, 0, none⟩ (.int .u64 (v : Int))) none :=
          grown_set_new (grown_drew (grown_trans (grown_alloc w _ none) (grown_alloc _ _ none))) (by omega) 0 _
        generalize (((w.alloc (.cells #[.int .u64 (most : Int)] 80)).alloc (.cells #[.int .u64 0] 80)).drew.setCell ⟨w.heap.size + 1, 0, none⟩ (.int .u64 (v : Int))) = w9 at *
        have hcell : (w9.setCell ⟨b, 1, none⟩ (.int .i64 ((at_ : Int) + (k : Int)))).cell? ⟨w.heap.size + 1, 0, none⟩ = some (.int .u64 (v : Int)) := by
          have := block_cell (w := w9.setCell ⟨b, 1, none⟩ (.int .i64 ((at_ : Int) + (k : Int)))) ((Below.heap_setCell w9 ⟨b, 1, none⟩ (.int .i64 ((at_ : Int) + (k : Int))) (w.heap.size + 1) hne).trans hc9) 0
          simpa using this
        have Hg9 := Lib.hid hg9
        have Hb9 := Lib.hid hb9
        have Hk := Lib.hid hk
        clear hg9 hb9 hc9 hk
        go_wp2
        go_ret
        rw [Hnum2.out]
        refine ⟨rfl, ⟨A, n, c, ?_, ?_, h3, by have := Hk.out; show at_ + k ≤ n; omega, h5, H6.out⟩, ?_⟩
        · have := Joins.block_setCell (i := 1) Hb9.out (.int .i64 ((at_ : Int) + (k : Int)))
          simpa using this
        · exact ((H2.out.grown Hg9.out (by omega) (fun g hg => by cases hg))).setCell (by show b ≤ b; omega) _
        · have h7 : w.grownBy w9 (some b) := ⟨Hg9.out.os, Hg9.out.tape, Hg9.out.output, Hg9.out.size, fun k hk _ => Hg9.out.block k hk (by simp)⟩
          exact grown_trans h7 (grown_set _ _ _)
    · have Ht := Lib.hid ht
      have Hnum2 : Hid (numRS ⟨l, at_, 0⟩ most = (⟨l, at_, (take1 (l.drop at_) most).2.1⟩, 0)) := by show _ = _; rw [Hnum.out, if_pos (by simpa using Ht.out)]
      clear ht Hnum hln
      go_enter Tryz.func41, Tryz.ntmps41
      go_wp2_with fail
      refine (readNum_bad b n c at_ (take1 (l.drop at_) most).2.1 A A2 _ _ (fun w' => w' = ((w.alloc (.cells #[.int .u64 (most : Int)] 80)).alloc (.cells #[.int .u64 0] 80)).drew) _ H1a.out (by omega) h5 Ht.out Hrun.out ?_ ?_).mono ?_
      · rintro w' rfl
        exact H1a.out
      · refine (num1_bad A2 (n - at_) (c - at_) most w.heap.size (w.heap.size + 1) (l.drop at_) _ ?_ (by omega) Hsm.out ?_ Ht.out).mono ?_
        · exact ((((Hrd.out.more (by omega)).alloc (Nat.le_refl _) _).alloc (by simp) _).drew).more (by simp; omega)
        · simp [go_sem]
        · rintro e w' ⟨rfl, rfl⟩
          exact ⟨rfl, rfl⟩
      · rintro e w' ⟨rfl, w2, rfl, rfl⟩
        generalize (take1 (l.drop at_) most).2.1 = v at *
        have hb9 : (((w.alloc (.cells #[.int .u64 (most : Int)] 80)).alloc (.cells #[.int .u64 0] 80)).drew).heap[w.heap.size + 1]? = some (.cells #[.int .u64 0] 80 (0, 0)) := by
          have := heap_alloc_new (w.alloc (.cells #[.int .u64 (most : Int)] 80)) (.cells #[.int .u64 0] 80)
          rw [World.size_alloc] at this
          exact this
        have hcell : (((w.alloc (.cells #[.int .u64 (most : Int)] 80)).alloc (.cells #[.int .u64 0] 80)).drew.setCell ⟨b, 2, none⟩ (.int .i64 v)).cell? ⟨w.heap.size + 1, 0, none⟩ = some (.int .u64 0) := by
          have := block_cell (w := ((w.alloc (.cells #[.int .u64 (most : Int)] 80)).alloc (.cells #[.int .u64 0] 80)).drew.setCell ⟨b, 2, none⟩ (.int .i64 v)) ((Below.heap_setCell _ ⟨b, 2, none⟩ (.int .i64 v) (w.heap.size + 1) (by show w.heap.size + 1 ≠ b; omega)).trans hb9) 0
          simpa using this
        clear hb9
        have hb8 : (((w.alloc (.cells #[.int .u64 (most : Int)] 80)).alloc (.cells #[.int .u64 0] 80)).drew).heap[b]? = some (.cells #[.slice A n c, .int .i64 (at_ : Int), .int .i64 0] 107 (0, 0)) := H1a.out
        have hg9 : w.grownBy (((w.alloc (.cells #[.int .u64 (most : Int)] 80)).alloc (.cells #[.int .u64 0] 80)).drew) none :=
          (grown_drew (grown_trans (grown_alloc w _ none) (grown_alloc _ _ none)))
        generalize (((w.alloc (.cells #[.int .u64 (most : Int)] 80)).alloc (.cells #[.int .u64 0] 80)).drew) = w9 at *
        have Hg9 := Lib.hid hg9
        have Hb9 := Lib.hid hb8
        clear hg9 hb8
        go_wp2
        go_ret
        rw [Hnum2.out]
        refine ⟨rfl, ⟨A, n, c, ?_, ?_, h3, h4, h5, H6.out⟩, ?_⟩
        · have := Joins.block_setCell (i := 2) Hb9.out (.int .i64 v)
          simpa using this
        · exact ((H2.out.grown Hg9.out (by omega) (fun g hg => by cases hg))).setCell (by show b ≤ b; omega) _
        · have h7 : w.grownBy w9 (some b) := ⟨Hg9.out.os, Hg9.out.tape, Hg9.out.output, Hg9.out.size, fun k hk _ => Hg9.out.block k hk (by simp)⟩
          exact grown_trans h7 (grown_set _ _ _)
  · have Hnum2 : Hid (numRS ⟨l, at_, err⟩ most = (⟨l, at_, err⟩, 0)) := by show _ = _; unfold numRS; rw [if_pos (by simpa using he)]
    have Hbox : Hid (((w.alloc (.cells #[.int .u64 (most : Int)] 80)).alloc (.cells #[.int .u64 0] 80)).cell? ⟨w.heap.size + 1, 0, none⟩ = some (.int .u64 0)) := by show _ = _; simp [go_sem]
    go_enter Tryz.func41, Tryz.ntmps41
    go_wp2_with fail
    refine (read_skip b A n c at_ err _ _ H1a.out he).mono ?_
    rintro e w' ⟨rfl, rfl⟩
    go_wp2
    go_ret
    rw [Hnum2.out]
    refine ⟨rfl, ⟨A, n, c, H1a.out, ?_, h3, h4, h5, H6.out⟩, grown_trans (grown_alloc _ _ _) (grown_alloc _ _ _)⟩
    exact ((H2.out.alloc (by omega) _).alloc (by simp; omega) _)
end Go.Proofs.YthjpaclcoipocaaGreat
namespace Go.Proofs.YthjpaclcoipocaaGreat
open Go.RowKit Go.Lib

theorem valN_mono (l : List Nat) (j : Nat) : valN (l.drop j) ≤ valN l := by
  induction j generalizing l with
  | zero => simp
  | succ j ih =>
    cases l with
    | nil => simp
    | cons b l => simp only [List.drop_succ_cons, valN]; have := ih l; omega
theorem valN_drop {l : List Nat} {j : Nat} (h : j < l.length) : valN (l.drop j) = l.getD j 0 % 128 + 128 * valN (l.drop (j + 1)) := by
  rw [List.drop_eq_getElem_cons h, valN, List.getD_eq_getElem?_getD, List.getElem?_eq_getElem h]; rfl
/-- Small: ten bytes whose last one is 1 at most. -/
theorem valN_small {l : List Nat} {k : Nat} (hk : k ≤ 9) (h9 : k = 9 → l.getD 9 0 ≤ 1) (hl : k < l.length) : valN (l.take (k + 1)) < 18446744073709551616 := by
  rw [take_nat hl, valN_snoc]
  have h1 := valN_lt (l.take k)
  have e : (l.take k).length = k := by simp; omega
  rw [e] at h1 ⊢
  rcases Nat.lt_or_ge k 9 with h2 | h2
  · have h3 : 128 ^ k ≤ 128 ^ 8 := Nat.pow_le_pow_right (by omega) (by omega)
    have h4 : l.getD k 0 % 128 ≤ 127 := by omega
    have h5 := Nat.mul_le_mul h3 h4
    have h6 : (128 : Nat) ^ 8 = 72057594037927936 := by decide
    omega
  · obtain rfl : k = 9 := by omega
    have h4 : l.getD 9 0 % 128 ≤ 1 := by have := h9 rfl; omega
    have h5 := Nat.mul_le_mul (Nat.le_refl (128 ^ 9)) h4
    have h6 : (128 : Nat) ^ 9 = 9223372036854775808 := by decide
    omega
end Go.Proofs.YthjpaclcoipocaaGreat
namespace Go.Proofs.YthjpaclcoipocaaGreat
open Go.RowKit Go.Lib

def endRS (s : RS) : Int := if s.err ≠ 0 then s.err else if s.at_ < s.l.length then 5 else 0
/-- A new reader's state lies in a new block. -/
def NewR (w : World) (l : List Nat) (e : Ending) (w' : World) : Prop :=
  ∃ b, e = .returned (.pointer (some ⟨b, 0, none⟩)) ∧ RdAt w' b ⟨l, 0, 0⟩ ∧ w.heap.size ≤ b ∧ Below w.heap.size w w'
theorem own_cap {w : World} {base : Nat} {e : TypeId} {sz n c : Nat} {A : Option Addr} {xs : List Value} (h : w.ownsRow base e sz (.slice A n c) n xs) : n ≤ c := by
  rcases h.2 with ⟨_, h2⟩ | ⟨g, cap, cur, hv, _, _, hle, _⟩
  · omega
  · injection hv with _ _ h3
    omega
set_option maxRecDepth 100000 in
set_option maxHeartbeats 1000000 in
theorem newReader_any (A : Option Addr) (n c : Nat) (l : List Nat) (w : World) (hr : Rd w w.heap.size 1 A n (bv l)) (hn : n ≤ 1000000000) (hb : ∀ x ∈ l, x < 256) :
    Calls Tryz.prog 40 #[.slice A n c] w (NewR w l) := by
  have Hr := Lib.hid hr; have Hb := Lib.hid hb; clear hr hb
  have Hl : Hid (l.length = n) := by show _ = _; have := Hr.out.1; rw [bv_len] at this; omega
  go_enter Tryz.func40, Tryz.ntmps40
  go_wp2_with fail
  refine (fresh_any A n c 0 l w Hr.out hn (by omega)).mono ?_
  rintro e w1 ⟨A1, n1, c1, rfl, hown1, hn1, hb1⟩
  have Hown1 := Lib.hid hown1; have Hn1 := Lib.hid hn1; have Hb1 := Lib.hid hb1; clear hown1 hn1 hb1
  go_wp2
  go_ret
  refine ⟨w1.heap.size, rfl, ⟨A1, n1, c1, heap_alloc_new w1 _, ?_, own_cap Hown1.out, Nat.zero_le _, by have := Hn1.out; have := Hl.out; omega, Hb.out⟩, Hb1.out.size, Hb1.out.alloc Hb1.out.size _⟩
  exact (Rd.of_own Hown1.out).alloc (Nat.le_refl _) _
set_option maxRecDepth 100000 in
theorem err_any (b : Nat) (s : RS) (w : World) (h : RdAt w b s) : Calls Tryz.prog 56 #[.pointer (some ⟨b, 0, none⟩)] w fun e w' => e = .returned (.int .i64 s.err) ∧ w = w' := by
  obtain ⟨A, n, c, h1, _⟩ := h
  have h2 := block_cell h1 2
  simp at h2
  clear h1
  go_enter Tryz.func56, Tryz.ntmps56
  go_wp2
  go_ret
  exact ⟨rfl, rfl⟩
set_option maxRecDepth 100000 in
theorem left_any (b : Nat) (s : RS) (w : World) (h : RdAt w b s) : Calls Tryz.prog 57 #[.pointer (some ⟨b, 0, none⟩)] w fun e w' => e = .returned (.int .i64 ((s.l.length : Int) - (s.at_ : Int))) ∧ ∃ k, w' = w.drewN k := by
  obtain ⟨A, n, c, h1, h2, h3, h4, h5, _⟩ := h
  have hl : s.l.length = n := by have := h2.1; rw [bv_len] at this; omega
  have Hl := Lib.hid hl
  have g0 := block_cell h1 0
  have g1 := block_cell h1 1
  simp at g0 g1
  clear h1 h2 hl
  have h4' : (s.at_ : Int) ≤ (n : Int) := by omega
  have h5' : (n : Int) ≤ 1000000000 := by omega
  have e1 : IntKind.i64.wrap ((n : Int) - (s.at_ : Int)) = (n : Int) - (s.at_ : Int) := by rw [IntKind.wrap_i64]; omega
  go_enter Tryz.func57, Tryz.ntmps57
  go_wp2
  go_quiet (fail)
  go_wp2
  go_ret
  exact ⟨ret_int (by rw [Hl.out]), _, rfl⟩
set_option maxRecDepth 100000 in
theorem end_any (b : Nat) (s : RS) (w : World) (h : RdAt w b s) : Calls Tryz.prog 42 #[.pointer (some ⟨b, 0, none⟩)] w fun e w' => e = .returned (.int .i64 (endRS s)) ∧ ∃ k, w' = w.drewN k := by
  have H := Lib.hid h
  have hle : s.at_ ≤ s.l.length := by
    obtain ⟨A, n, c, h1, h2, h3, h4, h5, _⟩ := h
    have := h2.1; rw [bv_len] at this; omega
  clear h
  by_cases he : s.err = 0
  · have he' : (s.err != 0) = false := by simpa using he
    by_cases hlt : s.at_ < s.l.length
    · have hd : decide ((0 : Int) < (s.l.length : Int) - (s.at_ : Int)) = true := decide_eq_true (by omega)
      have Hres : Hid (endRS s = 5) := by show _ = _; unfold endRS; rw [if_neg (by simpa using he), if_pos hlt]
      clear he
      go_enter Tryz.func42, Tryz.ntmps42
      go_wp2_with fail
      refine (err_any b s w H.out).mono ?_
      rintro e w1 ⟨rfl, rfl⟩
      go_wp2_with fail
      refine (left_any b s w H.out).mono ?_
      rintro e w1 ⟨rfl, k, rfl⟩
      go_wp2
      go_ret
      exact ⟨by rw [Hres.out]; rfl, k, rfl⟩
    · have hd : decide ((0 : Int) < (s.l.length : Int) - (s.at_ : Int)) = false := decide_eq_false (by omega)
      have Hres : Hid (endRS s = 0) := by show _ = _; unfold endRS; rw [if_neg (by simpa using he), if_neg hlt]
      clear he
      go_enter Tryz.func42, Tryz.ntmps42
      go_wp2_with fail
      refine (err_any b s w H.out).mono ?_
      rintro e w1 ⟨rfl, rfl⟩
      go_wp2_with fail
      refine (left_any b s w H.out).mono ?_
      rintro e w1 ⟨rfl, k, rfl⟩
      go_wp2
      go_ret
      exact ⟨by rw [Hres.out]; rfl, k, rfl⟩
  · have he' : (s.err != 0) = true := by simpa using he
    have Hres : Hid (endRS s = s.err) := by show _ = _; unfold endRS; rw [if_pos (by simpa using he)]
    clear he
    go_enter Tryz.func42, Tryz.ntmps42
    go_wp2_with fail
    refine (err_any b s w H.out).mono ?_
    rintro e w1 ⟨rfl, rfl⟩
    go_wp2_with fail
    refine (err_any b s w H.out).mono ?_
    rintro e w1 ⟨rfl, rfl⟩
    go_wp2
    go_ret
    exact ⟨by rw [Hres.out]; rfl, 0, rfl⟩
end Go.Proofs.YthjpaclcoipocaaGreat
namespace Go.Proofs.YthjpaclcoipocaaGreat
open Go.RowKit Go.Lib

theorem Rd.upR {w w' : World} {B sz n : Nat} {A : Option Addr} {xs : List Value} (h : Rd w B sz A n xs) (hb : Below w.heap.size w w') (hB : B ≤ w.heap.size) : Rd w' w'.heap.size sz A n xs :=
  (h.below hb hB).more (Nat.le_trans hB hb.size)
theorem below_twoR (w : World) (a b : Obj) : Below w.heap.size w ((w.alloc a).alloc b) := ((Below.refl _ _).alloc (Nat.le_refl _) _).alloc (by simp) _
end Go.Proofs.YthjpaclcoipocaaGreat
namespace Go.Proofs.YthjpaclcoipocaaGreat
open Go.RowKit Go.Lib
theorem add128 (m : Nat) : (128 + (m : Int) % 128) = ((m % 128 + 128 : Nat) : Int) := by omega
end Go.Proofs.YthjpaclcoipocaaGreat
namespace Go.Proofs.YthjpaclcoipocaaGreat
open Go.RowKit Go.Lib

def sameB (a b : List Nat) : Bool := decide (a = b)
theorem sameB_yes {a b : List Nat} (h : a = b) : sameB a b = true := by simp [sameB, h]
theorem sameB_no {a b : List Nat} (h : a ≠ b) : sameB a b = false := by simp [sameB, h]
theorem sameB_iff {a b : List Nat} : sameB a b = true ↔ a = b := by simp [sameB]
def encB (l : List Nat) : List Nat := encN l.length ++ l
theorem getD_at (l : List Nat) {k : Nat} (h : k < l.length) : l[k]? = some (l.getD k 0) := by
  rw [List.getD_eq_getElem?_getD, List.getElem?_eq_getElem h]; rfl
theorem Rd.byte {w : World} {B n k : Nat} {A : Option Addr} {l : List Nat} (h : Rd w B 1 A n (bv l)) (hk : k < n) : ∃ b o, A = some ⟨b, o, none⟩ ∧ b < B ∧ w.cell? ⟨b, o + k, none⟩ = some (.int .u8 ((l.getD k 0 : Nat) : Int)) := by
  have hl : l.length = n := by have := h.1; rw [bv_len] at this; omega
  obtain ⟨b, o, e, hb, hc⟩ := h.2 (by omega)
  refine ⟨b, o, e, hb, hc k _ ?_⟩
  simp only [bv, List.getElem?_map]
  rw [getD_at l (by omega)]; rfl
theorem Rd.blen {w : World} {B n : Nat} {A : Option Addr} {l : List Nat} (h : Rd w B 1 A n (bv l)) : l.length = n := by have := h.1; rw [bv_len] at this; omega

set_option maxRecDepth 100000 in
set_option maxHeartbeats 1000000 in
theorem putBytes_any (A A' : Option Addr) (n c n' c' : Nat) (l x : List Nat) (w : World) (hr : Rd w w.heap.size 1 A n (bv l)) (hn : n ≤ 400000000) (hr' : Rd w w.heap.size 1 A' n' (bv x)) (hn' : n' ≤ 400000000) :
    Calls Tryz.prog 47 #[.slice A n c, .slice A' n' c'] w (GivesB w (l ++ encB x)) := by
  obtain ⟨i0, hi, hz0, hz1, hz2⟩ := info_parts info_u8
  have HI := Lib.hid (And.intro hi (And.intro hz0 (And.intro hz1 hz2))); clear hi hz0 hz1 hz2
  have Hr := Lib.hid hr; have Hr' := Lib.hid hr'
  have Hl := Lib.hid hr.blen; have Hx := Lib.hid hr'.blen
  clear hr hr'
  have hni : (n' : Int) ≤ 400000000 := by omega
  go_enter Tryz.func47, Tryz.ntmps47
  go_wp2_with fail
  have ecast : (10 : Int) + (n' : Int) = ((10 + n' : Nat) : Int) := by omega
  rw [ecast]
  refine (fresh_any A n c (10 + n') l w Hr.out (by omega) (by omega)).mono ?_
  rintro e w1 ⟨A1, n1, c1, rfl, hown1, hn1, hb1⟩
  clear ecast
  have hn1' : n1 ≤ 400000000 := by rw [hn1, Hl.out]; exact hn
  have Hown1 := Lib.hid hown1; have Hn1 := Lib.hid hn1; have Hb1 := Lib.hid hb1; clear hown1 hn1 hb1
  go_wp2_with fail
  refine (number_any w.heap.size n1 c1 A1 n' (bv l) w1 Hown1.out Hb1.out.size (by omega) (by omega)).mono ?_
  rintro e w2 ⟨A2, c2, rfl, hown2, hb2⟩
  have hen := encN_len n'
  have Hown2 := Lib.hid hown2; have Hb2 := Lib.hid (Hb1.out.trans hb2); clear hown2 hb2
  have hsz2 := Hb2.out.size
  generalize hq : n1 + (encN n').length = q at *
  have Hq := Lib.hid hq; clear hq
  have hq9 : q ≤ 500000000 := by have := Hq.out; omega
  clear hen
  go_wp2_with (at_builtin; go_must (refine wpList_append_rd w2 (by rfl) _ _ 24 (by rfl) w.heap.size 5 i0 (.int .u8 0) 1 1 Tryz.underlying24 HI.out rfl (by decide) _ _ _ (by rfl) Hown2.out w.heap.size A' n' c' (bv x) (by rfl) (Hr'.out.below Hb2.out (Nat.le_refl _)) (bv_one x) (by omega) (by omega) (by omega) ?_); intro v3 w3 hown3 hb3; have Hown3 := Lib.hid hown3; have Hb3 := Lib.hid (Hb2.out.trans hb3); clear hown3 hb3)
  go_ret
  obtain ⟨A3, c3, rfl⟩ := own_form Hown3.out
  refine ⟨A3, q + n', c3, rfl, ?_, ?_, Hb3.out⟩
  · have := Hown3.out
    have e : bv (l ++ encB x) = bv l ++ bv (encN n') ++ bv x := by unfold encB; rw [Hx.out, bv_append, bv_append]; simp
    rw [e]; exact this
  · unfold encB
    rw [← Hq.out, Hn1.out, List.length_append, List.length_append, Hx.out]; omega
end Go.Proofs.YthjpaclcoipocaaGreat
namespace Go.Proofs.YthjpaclcoipocaaGreat
open Go.RowKit Go.Lib

/-- What one read of bytes comes to: how far behind, the error, the bytes. -/
def takeB (l : List Nat) (most : Nat) : Nat × Int × List Nat :=
  if (lookN l).2.2 ≠ 0 then (0, (lookN l).2.2, [])
  else if most < (lookN l).1 then (0, 2, [])
  else if l.length - (lookN l).2.1 < (lookN l).1 then (0, 4, [])
  else ((lookN l).2.1 + (lookN l).1, 0, (l.drop (lookN l).2.1).take (lookN l).1)
theorem takeB_len (l : List Nat) (most : Nat) : (takeB l most).1 ≤ l.length := by
  have := lookN_len l
  unfold takeB
  split
  · simp
  · split
    · simp
    · split
      · simp
      · simp only; omega
end Go.Proofs.YthjpaclcoipocaaGreat
namespace Go.Proofs.YthjpaclcoipocaaGreat
open Go.RowKit Go.Lib
def bytesRS (s : RS) (most : Nat) : RS × List Nat :=
  if s.err ≠ 0 then (s, [])
  else if (takeB (s.l.drop s.at_) most).2.1 ≠ 0 then (⟨s.l, s.at_, (takeB (s.l.drop s.at_) most).2.1⟩, [])
  else (⟨s.l, s.at_ + (takeB (s.l.drop s.at_) most).1, 0⟩, (takeB (s.l.drop s.at_) most).2.2)
/-- The bytes that were read lie in a row of the call's own. -/
def GivesR (w : World) (b : Nat) (x : RS × List Nat) (e : Ending) (w' : World) : Prop :=
  ∃ A n c, e = .returned (.slice A n c) ∧ w'.ownsRow w.heap.size 5 1 (.slice A n c) n (bv x.2) ∧ n = x.2.length ∧ RdAt w' b x.1 ∧ w.grownBy w' (some b)
theorem own_down {w : World} {base base' : Nat} {e : TypeId} {sz n : Nat} {v : Value} {xs : List Value} (h : w.ownsRow base e sz v n xs) (hb : base' ≤ base) : w.ownsRow base' e sz v n xs := by
  refine ⟨h.1, ?_⟩
  rcases h.2 with h2 | ⟨g, cap, cur, h1, h2, h3⟩
  · exact .inl h2
  · exact .inr ⟨g, cap, cur, h1, by omega, h3⟩
end Go.Proofs.YthjpaclcoipocaaGreat
namespace Go.Proofs.YthjpaclcoipocaaGreat
open Go.RowKit Go.Lib

theorem lookN_lt (l : List Nat) : (lookN l).1 < 18446744073709551616 := by
  unfold lookN
  simp only
  split
  · simp
  · split
    · simp
    · rename_i h1 h2
      have h := goOn_le 10 l
      exact valN_small (by omega) (fun e => by rw [e] at h2; omega) (by omega)
theorem take1_all (l : List Nat) : take1 l 18446744073709551615 = if (lookN l).2.2 ≠ 0 then (0, (lookN l).2.2, 0) else ((lookN l).2.1, 0, (lookN l).1) := by
  unfold take1
  have := lookN_lt l
  split
  · rfl
  · rw [if_neg (by omega)]
theorem num_at (b : Nat) (mo : Int) (s : RS) (w : World) (h : RdAt w b s) (h0 : 0 ≤ mo) :
    Calls Tryz.prog 41 #[.pointer (some ⟨b, 0, none⟩), .int .u64 mo] w fun e w' => e = .returned (.int .u64 ((numRS s mo.toNat).2 : Int)) ∧ RdAt w' b (numRS s mo.toNat).1 ∧ w.grownBy w' (some b) := by
  obtain ⟨m, rfl⟩ := Int.eq_ofNat_of_zero_le h0
  exact num_any b m s w h
/-- What the reference's Some hands back. -/
def GivesSome (A : Option Addr) (n c : Nat) (w : World) (x : RS × List Nat) (e : Ending) (w' : World) : Prop :=
  ∃ A2 n2 c2, e = .returned (.tuple #[.agg #[.slice A n c, .int .i64 (x.1.at_ : Int), .int .i64 x.1.err], .slice A2 n2 c2]) ∧ w'.ownsRow w.heap.size 5 1 (.slice A2 n2 c2) n2 (bv x.2) ∧ n2 = x.2.length ∧ Below w.heap.size w w'
end Go.Proofs.YthjpaclcoipocaaGreat
