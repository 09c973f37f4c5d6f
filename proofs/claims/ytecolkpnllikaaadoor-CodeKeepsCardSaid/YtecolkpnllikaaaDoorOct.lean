/- The walks of layer 1 (octet): a number's bytes put behind others. Conditions: bounds on lengths. -/
import Derived.Test.YtecolkpnllikaaaDoorProg
import Derived.Test.YtecolkpnllikaaaDoorWords
import Derived.WalkLawsBesides
import Derived.Laws.BitsAllLaws
import Derived.Laws.ShiftsVarLaws
namespace Go.Proofs.YtecolkpnllikaaaDoor
open Go.RowKit Go.Lib

/-- Bytes as cells. -/
def bv (l : List Nat) : List Value := l.map fun (x : Nat) => .int .u8 (x : Int)
theorem bv_len (l : List Nat) : (bv l).length = l.length := by simp [bv]
theorem bv_append (l m : List Nat) : bv (l ++ m) = bv l ++ bv m := by simp [bv]
def enc7 : Nat → Nat → List Nat
  | 0, n => [n]
  | f + 1, n => if n < 128 then [n] else (n % 128 + 128) :: enc7 f (n / 128)
def encN (n : Nat) : List Nat := enc7 10 n
theorem info_u8 : (Tryd.prog.info? 5).map (fun i => (i.zero, i.size, i.bytes)) = some (some (.int .u8 0), 1, 1) := by kernel_rfl

theorem enc7_small {f m : Nat} (h : m < 128) : enc7 f m = [m] := by cases f <;> simp [enc7, h]
theorem enc7_big {f m : Nat} (h : ¬ m < 128) : enc7 (f + 1) m = (m % 128 + 128) :: enc7 f (m / 128) := by simp [enc7, h]
theorem enc7_len (f m : Nat) : (enc7 f m).length ≤ f + 1 := by
  induction f generalizing m with
  | zero => simp [enc7]
  | succ f ih => unfold enc7; split; simp; have := ih (m / 128); simp; omega
theorem encN_len (n : Nat) : (encN n).length ≤ 11 := enc7_len 10 n
theorem or128 (n : Nat) : bits BinOp.or IntKind.u8 ((n : Int) % 256) 128 = ((n % 128 + 128 : Nat) : Int) := by
  have h : ∀ x : Fin 256, bits BinOp.or IntKind.u8 ((x.val : Nat) : Int) 128 = ((x.val % 128 + 128 : Nat) : Int) := by decide +kernel
  have := h ⟨n % 256, Nat.mod_lt _ (by omega)⟩
  simp only at this
  rw [show ((n : Int) % 256) = ((n % 256 : Nat) : Int) by omega, this]
  congr 1; omega

set_option maxRecDepth 100000 in
set_option maxHeartbeats 1000000 in
theorem number_any (base k cp : Nat) (A : Option Addr) (n : Nat) (xs : List Value) (w : World) (hown : w.ownsRow base 5 1 (.slice A k cp) k xs) (hbase : base ≤ w.heap.size) (hk : k ≤ 1000000000) (hn : n < 18446744073709551616) :
    Calls Tryd.prog 63 #[.slice A k cp, .int .u64 n] w fun e w' => ∃ A' c', e = .returned (.slice A' (k + (encN n).length) c') ∧ w'.ownsRow base 5 1 (.slice A' (k + (encN n).length) c') (k + (encN n).length) (xs ++ bv (encN n)) ∧ Below base w w' := by
  obtain ⟨i0, hi, hz0, hz1, hz2⟩ := info_parts info_u8
  have HI := Lib.hid (And.intro hi (And.intro hz0 (And.intro hz1 hz2))); clear hi hz0 hz1 hz2
  have Hown := Lib.hid hown; clear hown
  have Hn := Lib.hid hn; clear hn
  go_enter Tryd.func63, Tryd.ntmps63
  go_wp2
  go_loopw [0, 1] (fun v x wr => ∃ (d : List Nat) (f m : Nat) (A' : Option Addr) (c' : Nat), v = .slice A' (k + d.length) c' ∧ x = .int .u64 (m : Int) ∧ wr.ownsRow base 5 1 (.slice A' (k + d.length) c') (k + d.length) (xs ++ bv d) ∧ d ++ enc7 f m = encN n ∧ m < 128 ^ (f + 1) ∧ m ≤ n ∧ d.length + f = 10 ∧ Below base w wr) (fun _ x _ => (intOf x).toNat)
  case atStart => exact ⟨[], 10, n, A, cp, rfl, rfl, by simpa [bv] using Hown.out, by simp [encN], Nat.lt_of_lt_of_le Hn.out (by decide), Nat.le_refl _, rfl, Below.refl _ _⟩
  case round =>
    obtain ⟨d, f, m, A', c', rfl, rfl, hown, henc, hm, hmn, hdf, hbel⟩ := hrel
    have Hown2 := Lib.hid hown; have Henc := Lib.hid henc; have Hm := Lib.hid hm; have Hbel := Lib.hid hbel
    have hsz : base ≤ wr.heap.size := Nat.le_trans hbase hbel.size
    have hm64 : m < 18446744073709551616 := Nat.lt_of_le_of_lt hmn Hn.out
    have Hm64 := Lib.hid hm64
    have hdl : d.length ≤ 10 := by omega
    have Hdf := Lib.hid hdf; have Hmn := Lib.hid hmn
    clear hown henc hm hbel hm64 hmn hdf
    by_cases h : m < 128
    · have hd0 : decide ((128 : Int) ≤ (m : Int)) = false := decide_eq_false (by omega)
      have em := enc7_small (f := f) h
      have Hem := Lib.hid em; clear em
      go_wp2_with (at_builtin; go_must (refine wpList_append_lit wr (by rfl) _ _ 48 (by rfl) base 5 i0 (.int .u8 0) 1 1 Tryd.underlying48 HI.out rfl (by decide) _ _ _ (by rfl) Hown2.out 1 1 #[.int .u8 (m : Int)] 5 (by rfl) rfl (by simp [Value.oneCell']) (by omega) (by omega) (by omega) ?_); intro v4 w4 hown4 hbel4)
      obtain ⟨A4, c4, rfl⟩ := own_form hown4
      have Hown4 := Lib.hid hown4; have Hbel4 := Lib.hid (Hbel.out.trans hbel4); clear hown4 hbel4
      go_ret
      have he : encN n = d ++ [m] := by rw [← Henc.out, Hem.out]
      refine ⟨A4, c4, by rw [he]; simp [Nat.add_assoc], ?_, Hbel4.out⟩
      rw [he, bv_append, List.length_append, ← List.append_assoc, ← Nat.add_assoc]
      exact Hown4.out
    · obtain ⟨f', rfl⟩ : ∃ f', f = f' + 1 := by
        cases f with
        | zero => have := Hm.out; simp at this; omega
        | succ f' => exact ⟨f', rfl⟩
      have hd0 : decide ((128 : Int) ≤ (m : Int)) = true := decide_eq_true (by omega)
      have hor := or128 m
      go_wp2_with (at_builtin; go_must (refine wpList_append_lit wr (by rfl) _ _ 48 (by rfl) base 5 i0 (.int .u8 0) 1 1 Tryd.underlying48 HI.out rfl (by decide) _ _ _ (by rfl) Hown2.out 1 1 #[.int .u8 ((m % 128 + 128 : Nat) : Int)] 5 (by rfl) rfl (by simp [Value.oneCell']) (by omega) (by omega) (by omega) ?_); intro v4 w4 hown4 hbel4)
      obtain ⟨A4, c4, rfl⟩ := own_form hown4
      have Hown4 := Lib.hid hown4; have Hbel4 := Lib.hid (Hbel.out.trans hbel4); clear hown4 hbel4
      go_wp2
      go_roundw
      case rel =>
        refine ⟨d ++ [m % 128 + 128], f', m / 128, A4, c4, ?_, ?_, ?_, ?_, ?_, ?_, ?_, Hbel4.out⟩
        · simp [Nat.add_assoc]
        · first | rfl | go_num
        · rw [bv_append, List.length_append, ← List.append_assoc, ← Nat.add_assoc]; exact Hown4.out
        · rw [← Henc.out, enc7_big h]; simp
        · have := Hm.out
          rw [Nat.pow_succ] at this
          exact Nat.div_lt_of_lt_mul (by rw [Nat.mul_comm]; exact this)
        · have := Hmn.out; omega
        · have := Hdf.out; simp; omega
      case measure => simp [intOf]; omega
end Go.Proofs.YtecolkpnllikaaaDoor
