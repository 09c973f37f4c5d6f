/- The walks of the reference of layer 1: a number's bytes. Conditions: bounds. -/
import Derived.Test.YtecolkpnllikaaaDoorOct2
namespace Go.Proofs.YtecolkpnllikaaaDoor
open Go.RowKit Go.Lib
theorem add128 (m : Nat) : (128 + (m : Int) % 128) = ((m % 128 + 128 : Nat) : Int) := by omega
set_option maxRecDepth 100000 in
set_option maxHeartbeats 1000000 in
theorem numr_any (n : Nat) (w : World) (hn : n < 18446744073709551616) :
    Calls Tryd.prog 45 #[.int .u64 n] w (GivesB w (encN n)) := by
  obtain ⟨i0, hi, hz0, hz1, hz2⟩ := info_parts info_u8
  have HI := Lib.hid (And.intro hi (And.intro hz0 (And.intro hz1 hz2))); clear hi hz0 hz1 hz2
  have Hn := Lib.hid hn; clear hn
  go_enter Tryd.func45, Tryd.ntmps45
  go_wp2
  go_loopw [0, 3] (fun x v wr => ∃ (d : List Nat) (f m : Nat) (A' : Option Addr) (c' : Nat), v = .slice A' d.length c' ∧ x = .int .u64 (m : Int) ∧ wr.ownsRow w.heap.size 5 1 (.slice A' d.length c') d.length (bv d) ∧ d ++ enc7 f m = encN n ∧ m < 128 ^ (f + 1) ∧ m ≤ n ∧ d.length + f = 10 ∧ Below w.heap.size w wr) (fun x _ _ => (intOf x).toNat)
  case atStart => exact ⟨[], 10, n, none, 0, rfl, rfl, World.ownsRow_nil _ _ _ _, by simp [encN], Nat.lt_of_lt_of_le Hn.out (by decide), Nat.le_refl _, rfl, Below.refl _ _⟩
  case round =>
    obtain ⟨d, f, m, A', c', rfl, rfl, hown, henc, hm, hmn, hdf, hbel⟩ := hrel
    have Hown2 := Lib.hid hown; have Henc := Lib.hid henc; have Hm := Lib.hid hm; have Hbel := Lib.hid hbel
    have hsz : w.heap.size ≤ wr.heap.size := hbel.size
    have hm64 : m < 18446744073709551616 := Nat.lt_of_le_of_lt hmn Hn.out
    have hdl : d.length ≤ 10 := by omega
    have Hdf := Lib.hid hdf; have Hmn := Lib.hid hmn; have Hm64 := Lib.hid hm64
    clear hown henc hm hbel hm64 hmn hdf
    by_cases h : m < 128
    · have hd0 : decide ((128 : Int) ≤ (m : Int)) = false := decide_eq_false (by omega)
      have em := enc7_small (f := f) h
      have Hem := Lib.hid em; clear em
      go_wp2_with (at_builtin; go_must (refine wpList_append_lit wr (by rfl) _ _ 48 (by rfl) w.heap.size 5 i0 (.int .u8 0) 1 1 Tryd.underlying48 HI.out rfl (by decide) _ _ _ (by rfl) Hown2.out 1 1 #[.int .u8 (m : Int)] 5 (by rfl) rfl (by simp [Value.oneCell']) (by omega) (by omega) (by omega) ?_); intro v4 w4 hown4 hbel4)
      obtain ⟨A4, c4, rfl⟩ := own_form hown4
      have Hown4 := Lib.hid hown4; have Hbel4 := Lib.hid (Hbel.out.trans hbel4); clear hown4 hbel4
      go_ret
      have he : encN n = d ++ [m] := by rw [← Henc.out, Hem.out]
      refine ⟨A4, _, c4, rfl, ?_, ?_, Hbel4.out⟩
      · rw [he, bv_append]; exact Hown4.out
      · rw [he]; simp
    · obtain ⟨f', rfl⟩ : ∃ f', f = f' + 1 := by
        cases f with
        | zero => have := Hm.out; simp at this; omega
        | succ f' => exact ⟨f', rfl⟩
      have hd0 : decide ((128 : Int) ≤ (m : Int)) = true := decide_eq_true (by omega)
      have hwq : IntKind.u64.wrap ((m : Int) / 128) = (m : Int) / 128 := by
        have := Hm64.out
        rw [IntKind.wrap_u64]; omega
      go_wp2_with (at_builtin; go_must (refine wpList_append_lit wr (by rfl) _ _ 48 (by rfl) w.heap.size 5 i0 (.int .u8 0) 1 1 Tryd.underlying48 HI.out rfl (by decide) _ _ _ (by rfl) Hown2.out 1 1 #[.int .u8 (128 + (m : Int) % 128)] 5 (by rfl) rfl (by simp [Value.oneCell']) (by omega) (by omega) (by omega) ?_); intro v4 w4 hown4 hbel4)
      rw [add128 m] at hown4
      obtain ⟨A4, c4, rfl⟩ := own_form hown4
      have Hown4 := Lib.hid hown4; have Hbel4 := Lib.hid (Hbel.out.trans hbel4); clear hown4 hbel4
      go_wp2
      go_roundw
      case rel =>
        refine ⟨d ++ [m % 128 + 128], f', m / 128, A4, c4, ?_, ?_, ?_, ?_, ?_, ?_, ?_, Hbel4.out⟩
        · simp
        · first | rfl | go_num
        · rw [bv_append, List.length_append]; exact Hown4.out
        · rw [← Henc.out, enc7_big h]; simp
        · have := Hm.out
          rw [Nat.pow_succ] at this
          exact Nat.div_lt_of_lt_mul (by rw [Nat.mul_comm]; exact this)
        · have := Hmn.out; omega
        · have := Hdf.out; simp; omega
      case measure => simp [intOf]; omega
end Go.Proofs.YtecolkpnllikaaaDoor
