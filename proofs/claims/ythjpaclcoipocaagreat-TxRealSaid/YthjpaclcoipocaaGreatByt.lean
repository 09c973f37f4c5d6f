/- The walk of the reference's Same of bytes. Conditions: bounds on how many bytes. -/
import Derived.Test.YthjpaclcoipocaaGreatJoinA
namespace Go.Proofs.YthjpaclcoipocaaGreat
open Go.RowKit Go.Lib
set_option maxRecDepth 100000 in
set_option maxHeartbeats 1000000 in
theorem samer_any (A A' : Option Addr) (n c n' c' : Nat) (l x : List Nat) (w : World) (hr : Rd w w.heap.size 1 A n (bv l)) (hr' : Rd w w.heap.size 1 A' n' (bv x)) (hn : n ≤ 1000000000) (hn' : n' ≤ 1000000000) :
    Calls Tryz.prog 16 #[.slice A n c, .slice A' n' c'] w fun e w' => e = .returned (.bool (sameB l x)) ∧ Below w.heap.size w w' := by
  have Hr := Lib.hid hr; have Hr' := Lib.hid hr'
  have Hl := Lib.hid hr.blen; have Hx := Lib.hid hr'.blen
  clear hr hr'
  by_cases hne : n = n'
  · subst hne
    have hq : ((n : Int) != (n : Int)) = false := by simp
    go_enter Tryz.func16, Tryz.ntmps16
    go_wp2
    go_loopw [5] (fun i wr => ∃ k : Nat, k ≤ n ∧ i = .int .i64 k ∧ (∀ j, j < k → l.getD j 0 = x.getD j 0) ∧ Below w.heap.size w wr) (fun i _ => n - (intOf i).toNat)
    case atStart => exact ⟨0, by omega, rfl, fun j hj => absurd hj (by omega), Below.refl _ _⟩
    case round =>
      obtain ⟨k, hk, rfl, hall, hbel⟩ := hrel
      have Hall := Lib.hid hall; have Hbel := Lib.hid hbel
      by_cases hlt : k < n
      · obtain ⟨b, o, rfl, _, hcell⟩ := (Hr.out.below Hbel.out (Nat.le_refl _)).byte hlt
        obtain ⟨b', o', rfl, _, hcell'⟩ := (Hr'.out.below Hbel.out (Nat.le_refl _)).byte hlt
        clear hall hbel
        generalize hu : l.getD k 0 = u at *
        generalize hv : x.getD k 0 = v at *
        have Hu := Lib.hid hu; have Hv := Lib.hid hv
        clear hu hv
        have hd : decide ((k : Int) < (n : Int)) = true := decide_eq_true (by omega)
        have hki : (k : Int) < (n : Int) := by omega
        by_cases huv : u = v
        · have hb1 : ((u : Int) != (v : Int)) = false := by simp [huv]
          have Huv := Lib.hid huv
          clear huv
          go_wp2
          go_quiet (fail)
          go_wp2
          go_roundw
          case rel =>
            refine ⟨k + 1, by omega, by go_num, fun j hj => ?_, below_drewN Hbel.out _⟩
            rcases Nat.lt_or_ge j k with h1 | h1
            · exact Hall.out j h1
            · obtain rfl : j = k := by omega
              rw [Hu.out, Hv.out, Huv.out]
          case measure => simp [intOf]; omega
        · have hb1 : ((u : Int) != (v : Int)) = true := by simp; omega
          have Hres : Hid (sameB l x = false) := sameB_no (fun e => huv (by rw [← Hu.out, ← Hv.out, e]))
          clear huv
          go_wp2
          go_quiet (fail)
          go_wp2
          go_ret
          exact ⟨ret_bool Hres.out.symm, below_drewN Hbel.out _⟩
      · have hd : decide ((k : Int) < (n : Int)) = false := decide_eq_false (by omega)
        have Hres : Hid (sameB l x = true) := by
          refine sameB_yes (List.ext_getElem (by rw [Hl.out, Hx.out]) fun j h1 h2 => ?_)
          have := Hall.out j (by have := Hl.out; omega)
          rw [List.getD_eq_getElem?_getD, List.getElem?_eq_getElem h1, List.getD_eq_getElem?_getD, List.getElem?_eq_getElem h2] at this
          exact this
        clear hall hbel
        go_wp2
        go_ret
        exact ⟨ret_bool Hres.out.symm, Hbel.out⟩
  · have hq : ((n : Int) != (n' : Int)) = true := by simp; omega
    have Hres : Hid (sameB l x = false) := sameB_no (fun e => hne (by rw [← Hl.out, ← Hx.out, e]))
    clear hne
    go_enter Tryz.func16, Tryz.ntmps16
    go_wp2
    go_ret
    exact ⟨ret_bool Hres.out.symm, Below.refl _ _⟩
end Go.Proofs.YthjpaclcoipocaaGreat
