/- The walks of layer 1 (octet): a number's bytes put behind others. Conditions: bounds on lengths. The walks of layer 1 (octet): a fresh copy of bytes, a number's bytes, bytes with how many they are, put behind others. Conditions: bounds on lengths. The walks of the reference of layer 1: a number's bytes. Conditions: bounds. The walks of layer 1's PutBytes, and of the reference's Bytes. Conditions: bounds on how many bytes. -/
import Derived.Test.YthhiookcknnmdaaGreatProg
import Derived.Test.YthhiookcknnmdaaGreatWords
import Derived.WalkLawsBesides
import Derived.Laws.BitsAllLaws
import Derived.Laws.ShiftsVarLaws
import Derived.Test.YthhiookcknnmdaaGreatAppend
import Derived.Test.YthhiookcknnmdaaGreatSlice
import Derived.Laws.BytesArg
import Derived.Lib.Bytes
import Derived.Deep.QuietTactic
import Derived.BigQuiet
namespace Go.Proofs.YthhiookcknnmdaaGreat
open Go.RowKit Go.Lib

def bv (l : List Nat) : List Value := l.map fun (x : Nat) => .int .u8 x
theorem bv_len (l : List Nat) : (bv l).length = l.length := by simp [bv]
theorem bv_append (l m : List Nat) : bv (l ++ m) = bv l ++ bv m := by simp [bv]
def enc7 : Nat → Nat → List Nat
 | 0, n => [n]
 | f + 1, n => if n < 128 then [n] else (n % 128 + 128) :: enc7 f (n / 128)
def encN (n : Nat) : List Nat := enc7 10 n
theorem info_u8 : (Tryz.prog.info? 5).map (fun i => (i.zero, i.size, i.bytes)) = some (some (.int .u8 0), 1, 1) := by kernel_rfl

theorem enc7_small {f m : Nat} (h : m < 128) : enc7 f m = [m] := by cases f <;> simp [enc7, h]
theorem enc7_big {f m : Nat} (h : ¬ m < 128) : enc7 (f + 1) m = (m % 128 + 128) :: enc7 f (m / 128) := by simp [enc7, h]
theorem enc7_len (f m : Nat) : (enc7 f m).length ≤ f + 1 := by
 induction f generalizing m with
 | zero => simp [enc7]
 | succ f ih => unfold enc7; split; simp; have := ih (m / 128); simp; omega
theorem encN_len (n : Nat) : (encN n).length ≤ 11 := enc7_len 10 n
theorem or128 (n : Nat) : bits BinOp.or IntKind.u8 ((n : Int) % 256) 128 = ((n % 128 + 128 : Nat) : Int) := by
 have h : ∀ x : Fin 256, bits BinOp.or IntKind.u8 ((x.val : Nat) : Int) 128 = ((x.val % 128 + 128 : Nat) : Int) := by decide +kernel
 have := h ⟨n % 256, Nat.mod_lt _ (by omega)⟩
 simp only at this
 rw [show ((n : Int) % 256) = ((n % 256 : Nat) : Int) by omega, this]
 congr 1; omega

set_option maxRecDepth 100000 in
set_option maxHeartbeats 1000000 in
theorem number_any (base k cp : Nat) (A : Option Addr) (n : Nat) (xs : List Value) (w : World) (hown : w.ownsRow base 5 1 (.slice A k cp) k xs) (hbase : base ≤ w.heap.size) (hk : k ≤ 1000000000) (hn : n < 18446744073709551616) :
  Calls Tryz.prog 128 #[.slice A k cp, .int .u64 n] w fun e w' => ∃ A' c', e = .returned (.slice A' (k + (encN n).length) c') ∧ w'.ownsRow base 5 1 (.slice A' (k + (encN n).length) c') (k + (encN n).length) (xs ++ bv (encN n)) ∧ Below base w w' := by
 obtain ⟨i0, hi, hz0, hz1, hz2⟩ := info_parts info_u8
 have HI := Lib.hid (And.intro hi (And.intro hz0 (And.intro hz1 hz2))); clear hi hz0 hz1 hz2
 have Hown := Lib.hid hown; clear hown
 have Hn := Lib.hid hn; clear hn
 go_enter Tryz.func128, Tryz.ntmps128
 go_wp2
 go_loopw [0, 1] (fun v x wr => ∃ (d : List Nat) (f m : Nat) (A' : Option Addr) (c' : Nat), v = .slice A' (k + d.length) c' ∧ x = .int .u64 m ∧ wr.ownsRow base 5 1 (.slice A' (k + d.length) c') (k + d.length) (xs ++ bv d) ∧ d ++ enc7 f m = encN n ∧ m < 128 ^ (f + 1) ∧ m ≤ n ∧ d.length + f = 10 ∧ Below base w wr) (fun _ x _ => (intOf x).toNat)
 case atStart => exact ⟨[], 10, n, A, cp, rfl, rfl, by simpa [bv] using Hown.out, by simp [encN], Nat.lt_of_lt_of_le Hn.out (by decide), Nat.le_refl _, rfl, Below.refl _ _⟩
 case round =>
  obtain ⟨d, f, m, A', c', rfl, rfl, hown, henc, hm, hmn, hdf, hbel⟩ := hrel
  have Hown2 := Lib.hid hown; have Henc := Lib.hid henc; have Hm := Lib.hid hm; have Hbel := Lib.hid hbel
  have hsz : base ≤ wr.heap.size := Nat.le_trans hbase hbel.size
  have hm64 : m < 18446744073709551616 := Nat.lt_of_le_of_lt hmn Hn.out
  have Hm64 := Lib.hid hm64
  have hdl : d.length ≤ 10 := by omega
  have Hdf := Lib.hid hdf; have Hmn := Lib.hid hmn
  clear hown henc hm hbel hm64 hmn hdf
  by_cases h : m < 128
  ·have hd0 : decide ((128 : Int) ≤ (m : Int)) = false := decide_eq_false (by omega)
   have em := enc7_small (f := f) h
   have Hem := Lib.hid em; clear em
   go_wp2_with (at_builtin; go_must (refine wpList_append_lit wr (by rfl) _ _ 46 (by rfl) base 5 i0 (.int .u8 0) 1 1 Tryz.underlying46 HI.out rfl (by decide) _ _ _ (by rfl) Hown2.out 1 1 #[.int .u8 m] 5 (by rfl) rfl (by simp [Value.oneCell']) (by omega) (by omega) (by omega) ?_); intro v4 w4 hown4 hbel4)
   obtain ⟨A4, c4, rfl⟩ := own_form hown4
   have Hown4 := Lib.hid hown4; have Hbel4 := Lib.hid (Hbel.out.trans hbel4); clear hown4 hbel4
   go_ret
   have he : encN n = d ++ [m] := by rw [← Henc.out, Hem.out]
   refine ⟨A4, c4, by rw [he]; simp [Nat.add_assoc], ?_, Hbel4.out⟩
   rw [he, bv_append, List.length_append, ← List.append_assoc, ← Nat.add_assoc]
   exact Hown4.out
  ·obtain ⟨f', rfl⟩ : ∃ f', f = f' + 1 := by
    cases f with
    | zero => have := Hm.out; simp at this; omega
    | succ f' => exact ⟨f', rfl⟩
   have hd0 : decide ((128 : Int) ≤ (m : Int)) = true := decide_eq_true (by omega)
   have hor := or128 m
   go_wp2_with (at_builtin; go_must (refine wpList_append_lit wr (by rfl) _ _ 46 (by rfl) base 5 i0 (.int .u8 0) 1 1 Tryz.underlying46 HI.out rfl (by decide) _ _ _ (by rfl) Hown2.out 1 1 #[.int .u8 ((m % 128 + 128 : Nat) : Int)] 5 (by rfl) rfl (by simp [Value.oneCell']) (by omega) (by omega) (by omega) ?_); intro v4 w4 hown4 hbel4)
   obtain ⟨A4, c4, rfl⟩ := own_form hown4
   have Hown4 := Lib.hid hown4; have Hbel4 := Lib.hid (Hbel.out.trans hbel4); clear hown4 hbel4
   go_wp2
   go_roundw
   case rel =>
    refine ⟨d ++ [m % 128 + 128], f', m / 128, A4, c4, ?_, ?_, ?_, ?_, ?_, ?_, ?_, Hbel4.out⟩
    ·simp [Nat.add_assoc]
    ·first | rfl | go_num
    ·rw [bv_append, List.length_append, ← List.append_assoc, ← Nat.add_assoc]; exact Hown4.out
    ·rw [← Henc.out, enc7_big h]; simp
    ·have := Hm.out
     rw [Nat.pow_succ] at this
     exact Nat.div_lt_of_lt_mul (by rw [Nat.mul_comm]; exact this)
    ·have := Hmn.out; omega
    ·have := Hdf.out; simp; omega
   case measure => simp [intOf]; omega
end Go.Proofs.YthhiookcknnmdaaGreat
namespace Go.Proofs.YthhiookcknnmdaaGreat
open Go.RowKit Go.Lib

theorem bv_one (l : List Nat) : ∀ u ∈ bv l, u.oneCell' = true := by
 intro u hu
 simp only [bv, List.mem_map] at hu
 obtain ⟨x, _, rfl⟩ := hu
 rfl
def GivesB (w : World) (l : List Nat) (e : Ending) (w' : World) : Prop :=
 ∃ A n c, e = .returned (.slice A n c) ∧ w'.ownsRow w.heap.size 5 1 (.slice A n c) n (bv l) ∧ n = l.length ∧ Below w.heap.size w w'

set_option maxRecDepth 100000 in
set_option maxHeartbeats 1000000 in
theorem fresh_any (A : Option Addr) (n c more : Nat) (l : List Nat) (w : World) (hr : Rd w w.heap.size 1 A n (bv l)) (hn : n ≤ 1000000000) (hm : more ≤ 1000000000) :
  Calls Tryz.prog 129 #[.slice A n c, .int .i64 more] w (GivesB w l) := by
 obtain ⟨i0, hi, hz0, hz1, hz2⟩ := info_parts info_u8
 have HI := Lib.hid (And.intro hi (And.intro hz0 (And.intro hz1 hz2))); clear hi hz0 hz1 hz2
 have hl : l.length = n := by have := hr.1; rw [bv_len] at this; omega
 have Hl := Lib.hid hl; have Hr := Lib.hid hr; clear hl hr
 go_enter Tryz.func129, Tryz.ntmps129
 go_wp2_with (first
  | (at_make; go_must (refine wpList_make_own w (by rfl) _ _ 46 (by rfl) w.heap.size 5 i0 (.int .u8 0) 1 Tryz.underlying46 HI.out.1 HI.out.2.1 HI.out.2.2.1 .i64 .i64 _ (n + more) (by rfl) (by rfl) (by simp) (by rw [HI.out.2.2.2]; omega) (by simp only [maxLen]; omega) (Nat.le_refl _) ?_); intro w1 hown1 hg1; have Hb1 := Lib.hid (below_of_grown hg1 (Nat.le_refl _) (by simp)); have Hown1 := Lib.hid hown1; clear hown1 hg1)
  | (at_builtin; go_must (refine wpList_append_rd w1 (by rfl) _ _ 46 (by rfl) w.heap.size 5 i0 (.int .u8 0) 1 1 Tryz.underlying46 HI.out rfl (by decide) _ _ _ (by rfl) Hown1.out w.heap.size A n c (bv l) (by rfl) (Hr.out.below Hb1.out (Nat.le_refl _)) (bv_one l) (by omega) (by omega) Hb1.out.size ?_); intro v2 w2 hown2 hb2; have Hown2 := Lib.hid hown2; have Hb2 := Lib.hid (Hb1.out.trans hb2); clear hown2 hb2))
 go_ret
 obtain ⟨A2, c2, rfl⟩ := own_form Hown2.out
 exact ⟨A2, 0 + n, c2, rfl, by simpa using Hown2.out, by rw [Hl.out]; simp, Hb2.out⟩

set_option maxRecDepth 100000 in
set_option maxHeartbeats 1000000 in
theorem putNum_any (A : Option Addr) (n c m : Nat) (l : List Nat) (w : World) (hr : Rd w w.heap.size 1 A n (bv l)) (hn : n ≤ 900000000) (hm : m < 18446744073709551616) :
  Calls Tryz.prog 87 #[.slice A n c, .int .u64 m] w (GivesB w (l ++ encN m)) := by
 have Hr := Lib.hid hr; have Hm := Lib.hid hm; clear hr hm
 have hl : Hid (l.length = n) := by show _ = _; have := Hr.out.1; rw [bv_len] at this; omega
 go_enter Tryz.func87, Tryz.ntmps87
 go_wp2_with fail
 refine (fresh_any A n c 10 l w Hr.out (by omega) (by omega)).mono ?_
 rintro e w1 ⟨A1, n1, c1, rfl, hown1, hn1, hb1⟩
 have hn1' : n1 ≤ 1000000000 := by rw [hn1, hl.out]; omega
 have Hown1 := Lib.hid hown1; have Hn1 := Lib.hid hn1; have Hb1 := Lib.hid hb1; clear hown1 hn1 hb1
 go_wp2_with fail
 refine (number_any w.heap.size n1 c1 A1 m (bv l) w1 Hown1.out Hb1.out.size hn1' Hm.out).mono ?_
 rintro e w2 ⟨A2, c2, rfl, hown2, hb2⟩
 have Hown2 := Lib.hid hown2; have Hb2 := Lib.hid (Hb1.out.trans hb2); clear hown2 hb2
 go_wp2
 go_ret
 exact ⟨A2, _, c2, rfl, by rw [bv_append]; exact Hown2.out, by rw [Hn1.out, List.length_append], Hb2.out⟩
end Go.Proofs.YthhiookcknnmdaaGreat
namespace Go.Proofs.YthhiookcknnmdaaGreat
open Go.RowKit Go.Lib
theorem add128 (m : Nat) : (128 + (m : Int) % 128) = ((m % 128 + 128 : Nat) : Int) := by omega
set_option maxRecDepth 100000 in
set_option maxHeartbeats 1000000 in
theorem numr_any (n : Nat) (w : World) (hn : n < 18446744073709551616) :
  Calls Tryz.prog 90 #[.int .u64 n] w (GivesB w (encN n)) := by
 obtain ⟨i0, hi, hz0, hz1, hz2⟩ := info_parts info_u8
 have HI := Lib.hid (And.intro hi (And.intro hz0 (And.intro hz1 hz2))); clear hi hz0 hz1 hz2
 have Hn := Lib.hid hn; clear hn
 go_enter Tryz.func90, Tryz.ntmps90
 go_wp2
 go_loopw [0, 3] (fun x v wr => ∃ (d : List Nat) (f m : Nat) (A' : Option Addr) (c' : Nat), v = .slice A' d.length c' ∧ x = .int .u64 m ∧ wr.ownsRow w.heap.size 5 1 (.slice A' d.length c') d.length (bv d) ∧ d ++ enc7 f m = encN n ∧ m < 128 ^ (f + 1) ∧ m ≤ n ∧ d.length + f = 10 ∧ Below w.heap.size w wr) (fun x _ _ => (intOf x).toNat)
 case atStart => exact ⟨[], 10, n, none, 0, rfl, rfl, World.ownsRow_nil _ _ _ _, by simp [encN], Nat.lt_of_lt_of_le Hn.out (by decide), Nat.le_refl _, rfl, Below.refl _ _⟩
 case round =>
  obtain ⟨d, f, m, A', c', rfl, rfl, hown, henc, hm, hmn, hdf, hbel⟩ := hrel
  have Hown2 := Lib.hid hown; have Henc := Lib.hid henc; have Hm := Lib.hid hm; have Hbel := Lib.hid hbel
  have hsz : w.heap.size ≤ wr.heap.size := hbel.size
  have hm64 : m < 18446744073709551616 := Nat.lt_of_le_of_lt hmn Hn.out
  have hdl : d.length ≤ 10 := by omega
  have Hdf := Lib.hid hdf; have Hmn := Lib.hid hmn; have Hm64 := Lib.hid hm64
  clear hown henc hm hbel hm64 hmn hdf
  by_cases h : m < 128
  ·have hd0 : decide ((128 : Int) ≤ (m : Int)) = false := decide_eq_false (by omega)
   have em := enc7_small (f := f) h
   have Hem := Lib.hid em; clear em
   go_wp2_with (at_builtin; go_must (refine wpList_append_lit wr (by rfl) _ _ 46 (by rfl) w.heap.size 5 i0 (.int .u8 0) 1 1 Tryz.underlying46 HI.out rfl (by decide) _ _ _ (by rfl) Hown2.out 1 1 #[.int .u8 m] 5 (by rfl) rfl (by simp [Value.oneCell']) (by omega) (by omega) (by omega) ?_); intro v4 w4 hown4 hbel4)
   obtain ⟨A4, c4, rfl⟩ := own_form hown4
   have Hown4 := Lib.hid hown4; have Hbel4 := Lib.hid (Hbel.out.trans hbel4); clear hown4 hbel4
   go_ret
   have he : encN n = d ++ [m] := by rw [← Henc.out, Hem.out]
   refine ⟨A4, _, c4, rfl, ?_, ?_, Hbel4.out⟩
   ·rw [he, bv_append]; exact Hown4.out
   ·rw [he]; simp
  ·obtain ⟨f', rfl⟩ : ∃ f', f = f' + 1 := by
    cases f with
    | zero => have := Hm.out; simp at this; omega
    | succ f' => exact ⟨f', rfl⟩
   have hd0 : decide ((128 : Int) ≤ (m : Int)) = true := decide_eq_true (by omega)
   have hwq : IntKind.u64.wrap ((m : Int) / 128) = (m : Int) / 128 := by
    have := Hm64.out
    rw [IntKind.wrap_u64]; omega
   go_wp2_with (at_builtin; go_must (refine wpList_append_lit wr (by rfl) _ _ 46 (by rfl) w.heap.size 5 i0 (.int .u8 0) 1 1 Tryz.underlying46 HI.out rfl (by decide) _ _ _ (by rfl) Hown2.out 1 1 #[.int .u8 (128 + (m : Int) % 128)] 5 (by rfl) rfl (by simp [Value.oneCell']) (by omega) (by omega) (by omega) ?_); intro v4 w4 hown4 hbel4)
   rw [add128 m] at hown4
   obtain ⟨A4, c4, rfl⟩ := own_form hown4
   have Hown4 := Lib.hid hown4; have Hbel4 := Lib.hid (Hbel.out.trans hbel4); clear hown4 hbel4
   go_wp2
   go_roundw
   case rel =>
    refine ⟨d ++ [m % 128 + 128], f', m / 128, A4, c4, ?_, ?_, ?_, ?_, ?_, ?_, ?_, Hbel4.out⟩
    ·simp
    ·first | rfl | go_num
    ·rw [bv_append, List.length_append]; exact Hown4.out
    ·rw [← Henc.out, enc7_big h]; simp
    ·have := Hm.out
     rw [Nat.pow_succ] at this
     exact Nat.div_lt_of_lt_mul (by rw [Nat.mul_comm]; exact this)
    ·have := Hmn.out; omega
    ·have := Hdf.out; simp; omega
   case measure => simp [intOf]; omega
end Go.Proofs.YthhiookcknnmdaaGreat
namespace Go.Proofs.YthhiookcknnmdaaGreat
open Go.RowKit Go.Lib

def sameB (a b : List Nat) : Bool := decide (a = b)
theorem sameB_yes {a b : List Nat} (h : a = b) : sameB a b = true := by simp [sameB, h]
theorem sameB_no {a b : List Nat} (h : a ≠ b) : sameB a b = false := by simp [sameB, h]
theorem sameB_iff {a b : List Nat} : sameB a b = true ↔ a = b := by simp [sameB]
def encB (l : List Nat) : List Nat := encN l.length ++ l
theorem getD_at (l : List Nat) {k : Nat} (h : k < l.length) : l[k]? = some (l.getD k 0) := by
 rw [List.getD_eq_getElem?_getD, List.getElem?_eq_getElem h]; rfl
theorem Rd.byte {w : World} {B n k : Nat} {A : Option Addr} {l : List Nat} (h : Rd w B 1 A n (bv l)) (hk : k < n) : ∃ b o, A = some ⟨b, o, none⟩ ∧ b < B ∧ w.cell? ⟨b, o + k, none⟩ = some (.int .u8 ((l.getD k 0 : Nat) : Int)) := by
 have hl : l.length = n := by have := h.1; rw [bv_len] at this; omega
 obtain ⟨b, o, e, hb, hc⟩ := h.2 (by omega)
 refine ⟨b, o, e, hb, hc k _ ?_⟩
 simp only [bv, List.getElem?_map]
 rw [getD_at l (by omega)]; rfl
theorem Rd.blen {w : World} {B n : Nat} {A : Option Addr} {l : List Nat} (h : Rd w B 1 A n (bv l)) : l.length = n := by have := h.1; rw [bv_len] at this; omega

set_option maxRecDepth 100000 in
set_option maxHeartbeats 1000000 in
theorem putBytes_any (A A' : Option Addr) (n c n' c' : Nat) (l x : List Nat) (w : World) (hr : Rd w w.heap.size 1 A n (bv l)) (hn : n ≤ 400000000) (hr' : Rd w w.heap.size 1 A' n' (bv x)) (hn' : n' ≤ 400000000) :
  Calls Tryz.prog 130 #[.slice A n c, .slice A' n' c'] w (GivesB w (l ++ encB x)) := by
 obtain ⟨i0, hi, hz0, hz1, hz2⟩ := info_parts info_u8
 have HI := Lib.hid (And.intro hi (And.intro hz0 (And.intro hz1 hz2))); clear hi hz0 hz1 hz2
 have Hr := Lib.hid hr; have Hr' := Lib.hid hr'
 have Hl := Lib.hid hr.blen; have Hx := Lib.hid hr'.blen
 clear hr hr'
 have hni : (n' : Int) ≤ 400000000 := by omega
 go_enter Tryz.func130, Tryz.ntmps130
 go_wp2_with fail
 have ecast : (10 : Int) + (n' : Int) = ((10 + n' : Nat) : Int) := by omega
 rw [ecast]
 refine (fresh_any A n c (10 + n') l w Hr.out (by omega) (by omega)).mono ?_
 rintro e w1 ⟨A1, n1, c1, rfl, hown1, hn1, hb1⟩
 clear ecast
 have hn1' : n1 ≤ 400000000 := by rw [hn1, Hl.out]; exact hn
 have Hown1 := Lib.hid hown1; have Hn1 := Lib.hid hn1; have Hb1 := Lib.hid hb1; clear hown1 hn1 hb1
 go_wp2_with fail
 refine (number_any w.heap.size n1 c1 A1 n' (bv l) w1 Hown1.out Hb1.out.size (by omega) (by omega)).mono ?_
 rintro e w2 ⟨A2, c2, rfl, hown2, hb2⟩
 have hen := encN_len n'
 have Hown2 := Lib.hid hown2; have Hb2 := Lib.hid (Hb1.out.trans hb2); clear hown2 hb2
 have hsz2 := Hb2.out.size
 generalize hq : n1 + (encN n').length = q at *
 have Hq := Lib.hid hq; clear hq
 have hq9 : q ≤ 500000000 := by have := Hq.out; omega
 clear hen
 go_wp2_with (at_builtin; go_must (refine wpList_append_rd w2 (by rfl) _ _ 46 (by rfl) w.heap.size 5 i0 (.int .u8 0) 1 1 Tryz.underlying46 HI.out rfl (by decide) _ _ _ (by rfl) Hown2.out w.heap.size A' n' c' (bv x) (by rfl) (Hr'.out.below Hb2.out (Nat.le_refl _)) (bv_one x) (by omega) (by omega) (by omega) ?_); intro v3 w3 hown3 hb3; have Hown3 := Lib.hid hown3; have Hb3 := Lib.hid (Hb2.out.trans hb3); clear hown3 hb3)
 go_ret
 obtain ⟨A3, c3, rfl⟩ := own_form Hown3.out
 refine ⟨A3, q + n', c3, rfl, ?_, ?_, Hb3.out⟩
 ·have := Hown3.out
  have e : bv (l ++ encB x) = bv l ++ bv (encN n') ++ bv x := by unfold encB; rw [Hx.out, bv_append, bv_append]; simp
  rw [e]; exact this
 ·unfold encB
  rw [← Hq.out, Hn1.out, List.length_append, List.length_append, Hx.out]; omega
set_option maxRecDepth 100000 in
set_option maxHeartbeats 1000000 in
theorem bytesr_any (A : Option Addr) (n c : Nat) (l : List Nat) (w : World) (hr : Rd w w.heap.size 1 A n (bv l)) (hn : n ≤ 400000000) :
  Calls Tryz.prog 89 #[.slice A n c] w (GivesB w (encB l)) := by
 obtain ⟨i0, hi, hz0, hz1, hz2⟩ := info_parts info_u8
 have HI := Lib.hid (And.intro hi (And.intro hz0 (And.intro hz1 hz2))); clear hi hz0 hz1 hz2
 have Hr := Lib.hid hr
 have Hl := Lib.hid hr.blen
 clear hr
 have hni : (n : Int) ≤ 400000000 := by omega
 go_enter Tryz.func89, Tryz.ntmps89
 go_wp2_with fail
 refine (numr_any n w (by omega)).mono ?_
 rintro e w1 ⟨A1, n1, c1, rfl, hown1, hn1, hb1⟩
 have hen := encN_len n
 have hn1' : n1 ≤ 11 := by rw [hn1]; exact hen
 have Hown1 := Lib.hid hown1; have Hn1 := Lib.hid hn1; have Hb1 := Lib.hid hb1; clear hown1 hn1 hb1
 have hsz1 := Hb1.out.size
 clear hen
 go_wp2_with (at_builtin; go_must (refine wpList_append_rd w1 (by rfl) _ _ 46 (by rfl) w.heap.size 5 i0 (.int .u8 0) 1 1 Tryz.underlying46 HI.out rfl (by decide) _ _ _ (by rfl) Hown1.out w.heap.size A n c (bv l) (by rfl) (Hr.out.below Hb1.out (Nat.le_refl _)) (bv_one l) (by omega) (by omega) (by omega) ?_); intro v3 w3 hown3 hb3; have Hown3 := Lib.hid hown3; have Hb3 := Lib.hid (Hb1.out.trans hb3); clear hown3 hb3)
 go_ret
 obtain ⟨A3, c3, rfl⟩ := own_form Hown3.out
 refine ⟨A3, n1 + n, c3, rfl, ?_, ?_, Hb3.out⟩
 ·have := Hown3.out
  have e : bv (encB l) = bv (encN n) ++ bv l := by unfold encB; rw [Hl.out, bv_append]
  rw [e]; exact this
 ·unfold encB
  rw [Hn1.out, List.length_append, Hl.out]
end Go.Proofs.YthhiookcknnmdaaGreat
