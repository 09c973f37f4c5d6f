/- The walks of layer 14's functions on what an instruction writes and where it goes on, of the reference's, and of the comparison of two lists of numbers. Condition: the table of operations reads as laid; bounds. -/
import Derived.Test.YtecolkpnllikaaaDoorCodeA
namespace Go.Proofs.YtecolkpnllikaaaDoor
open Go.RowKit

def ints (xs : List Int) : List Value := xs.map (Value.int .i64)
theorem ints_len (xs : List Int) : (ints xs).length = xs.length := by simp [ints]
theorem ints_at {xs : List Int} {k : Nat} {u : Value} (h : (ints xs)[k]? = some u) : u = .int .i64 (xs.getD k 0) := by
  simp only [ints, List.getElem?_map, Option.map_eq_some_iff] at h
  obtain ⟨x, hx, rfl⟩ := h
  simp [List.getD_eq_getElem?_getD, hx]

theorem names_any (w : World) :
    Calls Tryd.prog 39 #[] w fun e w' => ∃ A c, e = .returned (.slice A 22 c) ∧ Rd w' w'.heap.size 1 A 22 (nameL.map fun l => .string ⟨l.toArray⟩) ∧ Below w.heap.size w w' := by
  go_enter Tryd.func39, Tryd.ntmps39
  go_wp2
  go_ret
  exact ⟨_, _, rfl, Rd.newA (n := 22) (sz := 1) w 9 _ rfl rfl, (Below.refl _ _).alloc (Nat.le_refl _) _⟩

theorem quick_take {xs ys : List Int} {k : Nat} (h : xs.take k = ys.take k) (hx : k < xs.length) (hy : k < ys.length) (e : xs.getD k 0 = ys.getD k 0) : xs.take (k + 1) = ys.take (k + 1) := by
  rw [List.take_succ_eq_append_getElem hx, List.take_succ_eq_append_getElem hy, h]
  simp only [List.getD_eq_getElem?_getD, List.getElem?_eq_getElem hx, List.getElem?_eq_getElem hy, Option.getD_some] at e
  rw [e]
def sameB (xs ys : List Int) : Bool := decide (xs = ys)
set_option maxHeartbeats 400000 in
theorem ints_any (A B : Option Addr) (n m c d : Nat) (xs ys : List Int) (w : World) (hx : Rd w w.heap.size 1 A n (ints xs)) (hy : Rd w w.heap.size 1 B m (ints ys)) (hn : n ≤ 281474976710656) (hm : m ≤ 281474976710656) :
    Calls Tryd.prog 11 #[.slice A n c, .slice B m d] w fun e w' => e = .returned (.bool (sameB xs ys)) ∧ Below w.heap.size w w' := by
  have lx : xs.length = n := by have := hx.1; rw [ints_len] at this; omega
  have ly : ys.length = m := by have := hy.1; rw [ints_len] at this; omega
  by_cases he : n = m
  · subst he
    have Hx := Lib.hid hx; have Hy := Lib.hid hy; have Lx := Lib.hid lx; have Ly := Lib.hid ly
    clear hx hy lx ly
    go_enter Tryd.func11, Tryd.ntmps11
    go_wp2
    go_loopw [5] (fun i wr => ∃ k : Nat, k ≤ n ∧ i = .int .i64 k ∧ xs.take k = ys.take k ∧ Below w.heap.size w wr) (fun i _ => n - (intOf i).toNat)
    case atStart => exact ⟨0, Nat.zero_le _, rfl, by simp, Below.refl _ _⟩
    case round =>
      obtain ⟨k, hk, rfl, ht, hb⟩ := hrel
      have Ht := Lib.hid ht; clear ht
      by_cases hlt : k < n
      · obtain ⟨b, o, u, rfl, hbB, hu, hcell⟩ := (Hx.out.below hb (Nat.le_refl _)).at_ hlt (show 0 < 1 by omega)
        obtain ⟨b2, o2, u2, rfl, hbB2, hu2, hcell2⟩ := (Hy.out.below hb (Nat.le_refl _)).at_ hlt (show 0 < 1 by omega)
        simp only [Nat.mul_one, Nat.add_zero] at hu hu2 hcell hcell2
        obtain rfl := ints_at hu
        obtain rfl := ints_at hu2
        clear hu hu2
        generalize hx1 : xs.getD k 0 = x at *
        generalize hx2 : ys.getD k 0 = y at *
        have Hx1 := Lib.hid hx1; have Hx2 := Lib.hid hx2; clear hx1 hx2
        have hi0 : (0 : Int) ≤ (k : Int) := by omega
        have hi1 : (k : Int) < (n : Int) := by omega
        by_cases hxy : x = y
        · have hbb : (x != y) = false := by simp [hxy]
          have Hxy := Lib.hid hxy; clear hxy
          go_wp2_with fail
          go_quiet (fail)
          go_wp2
          go_roundw
          case rel => exact ⟨k + 1, by omega, by go_num, quick_take Ht.out (by have := Lx.out; omega) (by have := Ly.out; omega) (by rw [Hx1.out, Hx2.out, Hxy.out]), below_drewN hb _⟩
          case measure => simp [intOf]; omega
        · have hbb : (x != y) = true := by simp [hxy]
          have Hxy := Lib.hid hxy; clear hxy
          go_wp2_with fail
          go_quiet (fail)
          go_wp2
          go_ret
          exact ⟨ret_bool (by unfold sameB; symm; simp only [decide_eq_false_iff_not]; intro e; exact Hxy.out (by rw [← Hx1.out, ← Hx2.out, e])), below_drewN hb _⟩
      · have hkn : k = n := by omega
        go_wp2
        go_ret
        exact ⟨ret_bool (by unfold sameB; symm; simp only [decide_eq_true_eq]; have h1 := Ht.out; have := Lx.out; have := Ly.out; rwa [List.take_of_length_le (by omega), List.take_of_length_le (by omega)] at h1), hb⟩
  · have hne : ((n : Int) != (m : Int)) = true := by simp; omega
    have hs : sameB xs ys = false := by unfold sameB; simp only [decide_eq_false_iff_not]; intro e; subst e; omega
    have Hs := Lib.hid hs; clear hs hx hy lx ly he
    go_enter Tryd.func11, Tryd.ntmps11
    go_wp2
    go_ret
    exact ⟨ret_bool Hs.out.symm, Below.refl _ _⟩
end Go.Proofs.YtecolkpnllikaaaDoor
