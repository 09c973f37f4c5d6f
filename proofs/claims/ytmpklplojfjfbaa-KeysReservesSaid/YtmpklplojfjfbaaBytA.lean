/- The walks of layer 1's PutBytes, and of the reference's Bytes. Conditions: bounds on how many bytes. -/
import Derived.Test.YtmpklplojfjfbaaOctR
import Derived.Test.YtmpklplojfjfbaaSlice
import Derived.Laws.BytesArg
import Derived.Lib.Bytes
import Derived.Deep.QuietTactic
import Derived.BigQuiet
namespace Go.Proofs.Ytmpklplojfjfbaa
open Go.RowKit Go.Lib

def sameB (a b : List Nat) : Bool := decide (a = b)
theorem sameB_yes {a b : List Nat} (h : a = b) : sameB a b = true := by simp [sameB, h]
theorem sameB_no {a b : List Nat} (h : a ≠ b) : sameB a b = false := by simp [sameB, h]
theorem sameB_iff {a b : List Nat} : sameB a b = true ↔ a = b := by simp [sameB]
def encB (l : List Nat) : List Nat := encN l.length ++ l
theorem getD_at (l : List Nat) {k : Nat} (h : k < l.length) : l[k]? = some (l.getD k 0) := by
  rw [List.getD_eq_getElem?_getD, List.getElem?_eq_getElem h]; rfl
theorem Rd.byte {w : World} {B n k : Nat} {A : Option Addr} {l : List Nat} (h : Rd w B 1 A n (bv l)) (hk : k < n) : ∃ b o, A = some ⟨b, o, none⟩ ∧ b < B ∧ w.cell? ⟨b, o + k, none⟩ = some (.int .u8 ((l.getD k 0 : Nat) : Int)) := by
  have hl : l.length = n := by have := h.1; rw [bv_len] at this; omega
  obtain ⟨b, o, e, hb, hc⟩ := h.2 (by omega)
  refine ⟨b, o, e, hb, hc k _ ?_⟩
  simp only [bv, List.getElem?_map]
  rw [getD_at l (by omega)]; rfl
theorem Rd.blen {w : World} {B n : Nat} {A : Option Addr} {l : List Nat} (h : Rd w B 1 A n (bv l)) : l.length = n := by have := h.1; rw [bv_len] at this; omega

set_option maxRecDepth 100000 in
set_option maxHeartbeats 1000000 in
theorem putBytes_any (A A' : Option Addr) (n c n' c' : Nat) (l x : List Nat) (w : World) (hr : Rd w w.heap.size 1 A n (bv l)) (hn : n ≤ 400000000) (hr' : Rd w w.heap.size 1 A' n' (bv x)) (hn' : n' ≤ 400000000) :
    Calls Try.prog 33 #[.slice A n c, .slice A' n' c'] w (GivesB w (l ++ encB x)) := by
  obtain ⟨i0, hi, hz0, hz1, hz2⟩ := info_parts info_u8
  have HI := Lib.hid (And.intro hi (And.intro hz0 (And.intro hz1 hz2))); clear hi hz0 hz1 hz2
  have Hr := Lib.hid hr; have Hr' := Lib.hid hr'
  have Hl := Lib.hid hr.blen; have Hx := Lib.hid hr'.blen
  clear hr hr'
  have hni : (n' : Int) ≤ 400000000 := by omega
  go_enter Try.func33, Try.ntmps33
  go_wp2_with fail
  have ecast : (10 : Int) + (n' : Int) = ((10 + n' : Nat) : Int) := by omega
  rw [ecast]
  refine (fresh_any A n c (10 + n') l w Hr.out (by omega) (by omega)).mono ?_
  rintro e w1 ⟨A1, n1, c1, rfl, hown1, hn1, hb1⟩
  clear ecast
  have hn1' : n1 ≤ 400000000 := by rw [hn1, Hl.out]; exact hn
  have Hown1 := Lib.hid hown1; have Hn1 := Lib.hid hn1; have Hb1 := Lib.hid hb1; clear hown1 hn1 hb1
  go_wp2_with fail
  refine (number_any w.heap.size n1 c1 A1 n' (bv l) w1 Hown1.out Hb1.out.size (by omega) (by omega)).mono ?_
  rintro e w2 ⟨A2, c2, rfl, hown2, hb2⟩
  have hen := encN_len n'
  have Hown2 := Lib.hid hown2; have Hb2 := Lib.hid (Hb1.out.trans hb2); clear hown2 hb2
  have hsz2 := Hb2.out.size
  generalize hq : n1 + (encN n').length = q at *
  have Hq := Lib.hid hq; clear hq
  have hq9 : q ≤ 500000000 := by have := Hq.out; omega
  clear hen
  go_wp2_with (at_builtin; go_must (refine wpList_append_rd w2 (by rfl) _ _ 32 (by rfl) w.heap.size 5 i0 (.int .u8 0) 1 1 Try.underlying32 HI.out rfl (by decide) _ _ _ (by rfl) Hown2.out w.heap.size A' n' c' (bv x) (by rfl) (Hr'.out.below Hb2.out (Nat.le_refl _)) (bv_one x) (by omega) (by omega) (by omega) ?_); intro v3 w3 hown3 hb3; have Hown3 := Lib.hid hown3; have Hb3 := Lib.hid (Hb2.out.trans hb3); clear hown3 hb3)
  go_ret
  obtain ⟨A3, c3, rfl⟩ := own_form Hown3.out
  refine ⟨A3, q + n', c3, rfl, ?_, ?_, Hb3.out⟩
  · have := Hown3.out
    have e : bv (l ++ encB x) = bv l ++ bv (encN n') ++ bv x := by unfold encB; rw [Hx.out, bv_append, bv_append]; simp
    rw [e]; exact this
  · unfold encB
    rw [← Hq.out, Hn1.out, List.length_append, List.length_append, Hx.out]; omega
set_option maxRecDepth 100000 in
set_option maxHeartbeats 1000000 in
theorem bytesr_any (A : Option Addr) (n c : Nat) (l : List Nat) (w : World) (hr : Rd w w.heap.size 1 A n (bv l)) (hn : n ≤ 400000000) :
    Calls Try.prog 34 #[.slice A n c] w (GivesB w (encB l)) := by
  obtain ⟨i0, hi, hz0, hz1, hz2⟩ := info_parts info_u8
  have HI := Lib.hid (And.intro hi (And.intro hz0 (And.intro hz1 hz2))); clear hi hz0 hz1 hz2
  have Hr := Lib.hid hr
  have Hl := Lib.hid hr.blen
  clear hr
  have hni : (n : Int) ≤ 400000000 := by omega
  go_enter Try.func34, Try.ntmps34
  go_wp2_with fail
  refine (numr_any n w (by omega)).mono ?_
  rintro e w1 ⟨A1, n1, c1, rfl, hown1, hn1, hb1⟩
  have hen := encN_len n
  have hn1' : n1 ≤ 11 := by rw [hn1]; exact hen
  have Hown1 := Lib.hid hown1; have Hn1 := Lib.hid hn1; have Hb1 := Lib.hid hb1; clear hown1 hn1 hb1
  have hsz1 := Hb1.out.size
  clear hen
  go_wp2_with (at_builtin; go_must (refine wpList_append_rd w1 (by rfl) _ _ 32 (by rfl) w.heap.size 5 i0 (.int .u8 0) 1 1 Try.underlying32 HI.out rfl (by decide) _ _ _ (by rfl) Hown1.out w.heap.size A n c (bv l) (by rfl) (Hr.out.below Hb1.out (Nat.le_refl _)) (bv_one l) (by omega) (by omega) (by omega) ?_); intro v3 w3 hown3 hb3; have Hown3 := Lib.hid hown3; have Hb3 := Lib.hid (Hb1.out.trans hb3); clear hown3 hb3)
  go_ret
  obtain ⟨A3, c3, rfl⟩ := own_form Hown3.out
  refine ⟨A3, n1 + n, c3, rfl, ?_, ?_, Hb3.out⟩
  · have := Hown3.out
    have e : bv (encB l) = bv (encN n) ++ bv l := by unfold encB; rw [Hl.out, bv_append]
    rw [e]; exact this
  · unfold encB
    rw [Hn1.out, List.length_append, Hl.out]
end Go.Proofs.Ytmpklplojfjfbaa
