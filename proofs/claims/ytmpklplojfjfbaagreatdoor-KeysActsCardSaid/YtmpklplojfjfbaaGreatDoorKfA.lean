/- The chapter's example, and bytes compared: the walks of known and same. Condition: none. -/
import Derived.Test.YtmpklplojfjfbaaGreatDoorJoinY
import Derived.Test.YtmpklplojfjfbaaGreatDoorJoinP
import Derived.Test.YtmpklplojfjfbaaGreatDoorConv
namespace Go.Proofs.YtmpklplojfjfbaaGreatDoor
open Go.RowKit Go.Lib



set_option maxRecDepth 100000 in
set_option maxHeartbeats 2000000 in
theorem lsame_any (A A' : Option Addr) (n c n' c' : Nat) (l x : List Nat) (w : World) (hr : Rd w w.heap.size 1 A n (bv l)) (hr' : Rd w w.heap.size 1 A' n' (bv x)) (hl : ∀ y ∈ l, y < 256) (hx : ∀ y ∈ x, y < 256) :
    Calls Tryz.prog 15 #[.slice A n c, .slice A' n' c'] w fun e w' => e = .returned (.bool (sameB l x)) ∧ Below w.heap.size w w' := by
  have hcv := conv_bytes hr c 9 Tryz.underlying9
  have hcv' := conv_bytes hr' c' 9 Tryz.underlying9
  have Hs := Lib.hid (strS_eq hl hx)
  clear hr hr' hl hx
  generalize strS l = s at *
  generalize strS x = s' at *
  go_enter Tryz.func15, Tryz.ntmps15
  go_wp2
  go_ret
  exact ⟨ret_bool Hs.out, Below.refl _ _⟩
def d1of (n : Nat) : D8 := ⟨n, 0, 0, 0, 0, 0, 0, 0⟩
theorem d1of_ok {n : Nat} (h : n < 256) : (d1of n).ok := by unfold d1of D8.ok; simp [h]
theorem ex1 (s : D8) : (RingM.new s 1).reserve (d1of 7) = (⟨s, 1, [d1of 7]⟩, 0, 0) := rfl
theorem ex2 (s : D8) : (RingM.mk s 1 [d1of 7]).reserve (d1of 8) = (⟨s, 1, [d1of 7, d1of 8]⟩, 1, 0) := rfl
theorem ex3 (s : D8) : (RingM.mk s 1 [d1of 7, d1of 8]).reserve (d1of 7) = (⟨s, 1, [d1of 7, d1of 8]⟩, 0, 0) := rfl
theorem ex4 (s : D8) : (RingM.mk s 1 [d1of 7, d1of 8]).reserve (d1of 9) = (⟨s, 1, [d1of 7, d1of 8]⟩, 0, 17) := rfl
set_option maxRecDepth 100000 in
set_option maxHeartbeats 4000000 in
theorem known_any (w : World) : Calls Tryz.prog 5 #[] w fun e w' => e = .returned (.bool true) ∧ Below w.heap.size w w' := by
  go_enter Tryz.func5, Tryz.ntmps5
  go_wp2_with fail
  refine (new_any (d1of 1) 1 w (d1of_ok (by decide)) (by decide)).mono ?_
  rintro e w1 ⟨br, F, T0, T1, rfl, ha, hb⟩
  have HA := Lib.hid ha; have Hb := Lib.hid hb
  clear ha hb
  go_wp2_with fail
  refine (reserve_any (d1of 7) HA.out (d1of_ok (by decide)) Hb.out.size).mono ?_
  rintro e w2 ⟨rfl, hc, ha⟩
  rw [ex1] at ha ⊢
  have HA2 := Lib.hid ha; have Hb2 := Lib.hid (Hb.out.trans (hc.below (fun k hk => (HA.out.foot_lt k (.inl hk)).1) Hb.out.size))
  clear ha hc HA Hb
  go_wp2_with fail
  refine (reserve_any (d1of 8) HA2.out (d1of_ok (by decide)) Hb2.out.size).mono ?_
  rintro e w3 ⟨rfl, hc, ha⟩
  rw [ex2] at ha ⊢
  have HA3 := Lib.hid ha; have Hb3 := Lib.hid (Hb2.out.trans (hc.below (fun k hk => (HA2.out.foot_lt k (.inl hk)).1) Hb2.out.size))
  clear ha hc HA2 Hb2
  go_wp2_with fail
  refine (reserve_any (d1of 7) HA3.out (d1of_ok (by decide)) Hb3.out.size).mono ?_
  rintro e w4 ⟨rfl, hc, ha⟩
  rw [ex3] at ha ⊢
  have HA4 := Lib.hid ha; have Hb4 := Lib.hid (Hb3.out.trans (hc.below (fun k hk => (HA3.out.foot_lt k (.inl hk)).1) Hb3.out.size))
  clear ha hc HA3 Hb3
  go_wp2_with fail
  refine (reserve_any (d1of 9) HA4.out (d1of_ok (by decide)) Hb4.out.size).mono ?_
  rintro e w5 ⟨rfl, hc, ha⟩
  rw [ex4] at ha ⊢
  have HA5 := Lib.hid ha; have Hb5 := Lib.hid (Hb4.out.trans (hc.below (fun k hk => (HA4.out.foot_lt k (.inl hk)).1) Hb4.out.size))
  clear ha hc HA4 Hb4
  obtain ⟨mb, bt, hl, ht⟩ := HA5.out.led
  have HL := Lib.hid hl
  clear hl ht
  go_wp2_with fail
  refine (used_led HL.out).mono ?_
  rintro e w6 ⟨rfl, hb6⟩
  have Hb6 := Lib.hid (Hb5.out.trans (hb6.mono Hb5.out.size))
  clear hb6
  go_wp2
  go_ret
  exact ⟨rfl, Hb6.out⟩
end Go.Proofs.YtmpklplojfjfbaaGreatDoor
