/- The walks of PutText, and of PutNum at whole numbers. Conditions: bounds. -/
import Derived.Test.YthhiookcknnmdaaGreatJoinA
import Derived.Lib.AppendStr
namespace Go.Proofs.YthhiookcknnmdaaGreat
open Go.RowKit Go.Lib
theorem putNum_at (A : Option Addr) (n c : Nat) (x : Int) (l : List Nat) (w : World) (hr : Rd w w.heap.size 1 A n (bv l)) (hn : n ≤ 900000000) (h0 : 0 ≤ x) (h1 : x ≤ 18446744073709551615) :
  Calls Tryz.prog 87 #[.slice A n c, .int .u64 x] w (GivesB w (l ++ encN x.toNat)) := by
 obtain ⟨m, rfl⟩ := Int.eq_ofNat_of_zero_le h0
 rw [Int.toNat_natCast]
 exact putNum_any A n c m l w hr hn (by omega)
set_option maxRecDepth 100000 in
set_option maxHeartbeats 1000000 in
theorem putText_any (A : Option Addr) (n c : Nat) (l t : List Nat) (s : ByteArray) (w : World) (hr : Rd w w.heap.size 1 A n (bv l)) (hn : n ≤ 400000000) (hs : strCells s = bv t) (hsz : s.size = t.length) (hn' : s.size ≤ 400000000) :
  Calls Tryz.prog 57 #[.slice A n c, .string s] w (GivesB w (l ++ encB t)) := by
 obtain ⟨i0, hi, hz0, hz1, hz2⟩ := info_parts info_u8
 have HI := Lib.hid (And.intro hi (And.intro hz0 (And.intro hz1 hz2))); clear hi hz0 hz1 hz2
 have Hr := Lib.hid hr
 have Hl := Lib.hid hr.blen; have HS := Lib.hid hs; have Hsz := Lib.hid hsz
 clear hr hs hsz
 have hni : (s.size : Int) ≤ 400000000 := by omega
 go_enter Tryz.func57, Tryz.ntmps57
 go_wp2_with fail
 have ecast : (10 : Int) + (s.size : Int) = ((10 + s.size : Nat) : Int) := by omega
 rw [ecast]
 refine (fresh_any A n c (10 + s.size) l w Hr.out (by omega) (by omega)).mono ?_
 rintro e w1 ⟨A1, n1, c1, rfl, hown1, hn1, hb1⟩
 clear ecast
 have hn1' : n1 ≤ 400000000 := by rw [hn1, Hl.out]; exact hn
 have Hown1 := Lib.hid hown1; have Hn1 := Lib.hid hn1; have Hb1 := Lib.hid hb1; clear hown1 hn1 hb1
 go_wp2_with fail
 refine (number_any w.heap.size n1 c1 A1 s.size (bv l) w1 Hown1.out Hb1.out.size (by omega) (by omega)).mono ?_
 rintro e w2 ⟨A2, c2, rfl, hown2, hb2⟩
 have hen := encN_len s.size
 have Hown2 := Lib.hid hown2; have Hb2 := Lib.hid (Hb1.out.trans hb2); clear hown2 hb2
 have hsz2 := Hb2.out.size
 generalize hq : n1 + (encN s.size).length = q at *
 have Hq := Lib.hid hq; clear hq
 have hq9 : q ≤ 500000000 := by have := Hq.out; omega
 clear hen
 go_wp2_with (at_builtin; go_must (refine wpList_append_own_string (w := w2) (by rfl) _ _ 46 9 (by rfl) w.heap.size 5 i0 Tryz.underlying46 Tryz.underlying9 HI.out.1 HI.out.2.1 HI.out.2.2.1 HI.out.2.2.2 _ _ _ (by rfl) Hown2.out s (by rfl) (by simp only [maxLen]; omega) (by omega) (by omega) ?_); intro v3 w3 hown3 hg3 _; have Hown3 := Lib.hid hown3; have Hb3 := Lib.hid (Hb2.out.grown hg3 Hb2.out.size (fun k hk => (Hown2.out.lt k hk).1)); clear hown3 hg3)
 go_ret
 obtain ⟨A3, c3, rfl⟩ := own_form Hown3.out
 refine ⟨A3, q + s.size, c3, rfl, ?_, ?_, Hb3.out⟩
 ·have := Hown3.out
  have e : bv (l ++ encB t) = bv l ++ bv (encN s.size) ++ strCells s := by unfold encB; rw [HS.out, Hsz.out, bv_append, bv_append]; simp
  rw [e]; exact this
 ·unfold encB
  rw [← Hq.out, Hn1.out, List.length_append, List.length_append, Hsz.out]; omega
end Go.Proofs.YthhiookcknnmdaaGreat
