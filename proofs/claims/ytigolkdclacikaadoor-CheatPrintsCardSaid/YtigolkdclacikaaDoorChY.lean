/- The walk of the statement CheatPrints: the text of any plan, or what is wrong, is as the document says. Conditions: internal/bytealg.MaxLen holds a number; the table of powers of ten is there. -/
import Derived.Test.YtigolkdclacikaaDoorChX
import Derived.Test.YtigolkdclacikaaDoorChU
namespace Go.Proofs.YtigolkdclacikaaDoor
open Go.RowKit Go.Lib
set_option maxRecDepth 100000 in
set_option maxHeartbeats 2000000 in
theorem prints_any (A : Option Addr) (n c : Nat) (l : List De) (w : World) (hM : MaxAt w) (hT : TabW w) (hr : Rd w w.heap.size 5 A n (flat l)) (hn : n ≤ 9223372036854775807) :
    Calls Tryd.prog 8 #[.slice A n c] w fun e w' => e = .returned (.bool true) ∧ Below w.heap.size w w' := by
  have Hl := Lib.hid hr.dlen
  have Hr := Lib.hid hr
  have HM := Lib.hid (fun (u : World) (hu : Below w.heap.size w u) => told_any u (hM.below hu hM.1))
  have HT := Lib.hid (fun (u : World) (hu : Below w.heap.size w u) => hT.below hu hT.1)
  clear hr hM hT
  by_cases h3 : 300 < n
  · have hd : decide ((300 : Int) < (n : Int)) = true := decide_eq_true (by omega)
    clear h3
    go_enter Tryd.func8, Tryd.ntmps8
    go_wp2_with fail
    refine (HM.out w (Below.refl _ _)).mono ?_
    rintro e w1 ⟨rfl, hb⟩
    have Hb := Lib.hid hb
    clear hb
    go_wp2
    go_ret
    exact ⟨rfl, Hb.out⟩
  have hd : decide ((300 : Int) < (n : Int)) = false := decide_eq_false (by omega)
  have hn3 : n ≤ 300 := by omega
  clear h3
  go_enter Tryd.func8, Tryd.ntmps8
  go_wp2_with fail
  refine (own_any A n c l w Hr.out (by omega)).mono ?_
  rintro e w1 ⟨A1, n1, c1, rfl, hr1, hn1, hb⟩
  have Hb1 := Lib.hid hb
  have HP := Lib.hid (print_any A1 n1 c1 l w1 hr1 (by rw [hn1, Hl.out]; omega) (HT.out w1 hb))
  clear hb hr1 hn1
  have HR := Lib.hid (fun (u : World) (hu : Below w.heap.size w u) => printr_any A n c l u ((Hr.out.below hu (Nat.le_refl _)).more hu.size) (by omega))
  generalize (if checkD l 16 = 0 then textB l else ⟨#[]⟩) = tx at *
  generalize checkD l 16 = ck at *
  go_wp2_with fail
  refine HP.out.mono ?_
  rintro e w2 ⟨rfl, hb⟩
  have Hb2 := Lib.hid (Hb1.out.trans (hb.mono Hb1.out.size))
  clear hb HP
  go_wp2_with fail
  refine (HR.out w2 Hb2.out).mono ?_
  rintro e w3 ⟨rfl, hb⟩
  have Hb3 := Lib.hid (Hb2.out.trans (hb.mono Hb2.out.size))
  clear hb HR
  have hss : (tx.toList == tx.toList) = true := by simp
  have hqq : (ck == ck) = true := by simp
  go_wp2_with fail
  refine (HM.out w3 Hb3.out).mono ?_
  rintro e w4 ⟨rfl, hb⟩
  have Hb4 := Lib.hid (Hb3.out.trans (hb.mono Hb3.out.size))
  clear hb
  go_wp2
  go_ret
  exact ⟨rfl, Hb4.out⟩
end Go.Proofs.YtigolkdclacikaaDoor
