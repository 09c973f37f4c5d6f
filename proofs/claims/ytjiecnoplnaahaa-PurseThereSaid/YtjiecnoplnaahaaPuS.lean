/- The walks of slices.Equal at held ones, and of Same of two purses. Conditions: bounds. -/
import Derived.Test.YtjiecnoplnaahaaPuS0
import Derived.RegionTactic
namespace Go.Proofs.Ytjiecnoplnaahaa
open Go.RowKit Go.Lib

def eqHs (l m : List Hd) : Bool := decide (l.length = m.length) && (List.range l.length).all fun k => sameHd (l.getD k default) (m.getD k default)
theorem same_eq (p q : Pu) : p.same q = (eqI p.nm.L q.nm.L && (p.no == q.no) && (eqI [p.h0, p.h1] [q.h0, q.h1]) && eqHs p.held q.held) := by
  have e : eqI [p.h0, p.h1] [q.h0, q.h1] = ((p.h0 == q.h0) && (p.h1 == q.h1)) := by rw [eqI_cons, eqI_cons]; simp [eqI]
  unfold Pu.same eqHs
  rw [e]
  simp only [Bool.and_assoc]
theorem eqHs_len {l m : List Hd} (h : l.length ≠ m.length) : eqHs l m = false := by unfold eqHs; rw [decide_eq_false h]; rfl
theorem eqHs_no {l m : List Hd} {k : Nat} (hk : k < l.length) (h : sameHd (l.getD k default) (m.getD k default) = false) : eqHs l m = false := by
  unfold eqHs
  rw [Bool.and_eq_false_iff]
  right
  rw [List.all_eq_false]
  exact ⟨k, by simpa using hk, by rw [h]; decide⟩
theorem eqHs_yes {l m : List Hd} (hl : l.length = m.length) (h : ∀ k, k < l.length → sameHd (l.getD k default) (m.getD k default) = true) : eqHs l m = true := by
  unfold eqHs
  rw [decide_eq_true hl, Bool.true_and, List.all_eq_true]
  intro k hk
  exact h k (by simpa using hk)
set_option maxRecDepth 100000 in
set_option maxHeartbeats 2000000 in
theorem seq_any (A A' : Option Addr) (n c n' c' : Nat) (l m : List Hd) (w : World) (hr : Rd w w.heap.size 11 A n (flatH l)) (hr' : Rd w w.heap.size 11 A' n' (flatH m)) (hn : n ≤ 1000000) (hn' : n' ≤ 1000000) :
    Calls Try.prog 46 #[.slice A n c, .slice A' n' c'] w fun e w' => e = .returned (.bool (eqHs l m)) ∧ Below w.heap.size w w' := by
  have Hr := Lib.hid hr; have Hr' := Lib.hid hr'
  have Hl := Lib.hid hr.hlen; have Hl' := Lib.hid hr'.hlen
  clear hr hr'
  by_cases hlen : n = n'
  · subst hlen
    have heq := neq_held
    have b1 : ((n : Int) != (n : Int)) = false := by simp
    go_enter Try.func46, Try.ntmps46
    go_wp2
    go_loopw [13] (fun i wr => ∃ k : Nat, k ≤ n ∧ i = .int .i64 (k : Int) ∧ (∀ j, j < k → sameHd (l.getD j default) (m.getD j default) = true) ∧ Below w.heap.size w wr) (fun i _ => n - (intOf i).toNat)
    case atStart => exact ⟨0, by omega, rfl, fun j hj => absurd hj (by omega), Below.refl _ _⟩
    case round =>
      obtain ⟨k, hk, rfl, h0, hbel⟩ := hrel
      have H0 := Lib.hid h0; have Hbel := Lib.hid hbel
      clear h0
      by_cases hlt : k < n
      · obtain ⟨b, o, rfl, hbB, x0, x1, x2, x3, x4, x5, x6, x7, x8, x9, x10⟩ := (Hr.out.up hbel (Nat.le_refl _)).hd hlt
        obtain ⟨b', o', rfl, hbB', y0, y1, y2, y3, y4, y5, y6, y7, y8, y9, y10⟩ := (Hr'.out.up hbel (Nat.le_refl _)).hd hlt
        have hd1 : decide ((k : Int) < (n : Int)) = true := decide_eq_true (by omega)
        have hki : (k : Int) < (n : Int) := by omega
        have Hfin : Hid (sameHd (l.getD k default) (m.getD k default) = false → eqHs l m = false) := fun h => eqHs_no (by have := Hl.out; omega) h
        generalize hhk : l.getD k default = h at *
        generalize hhm : m.getD k default = h' at *
        have Hhk := Lib.hid hhk; have Hhm := Lib.hid hhm
        clear hhk hhm hbel
        cases hS : sameHd h h' with
        | true =>
          have HS := Lib.hid hS
          go_wp2
          go_region
          all_goals
            go_wp2
            go_roundw
            case rel =>
              refine ⟨k + 1, by omega, by go_num, fun j hj => ?_, Hbel.out.drew⟩
              rcases Nat.lt_or_ge j k with h1 | h1
              · exact H0.out j h1
              · obtain rfl : j = k := by omega
                rw [Hhk.out, Hhm.out]; exact HS.out
            case measure => simp [intOf]; omega
        | false =>
          have Hr2 := Lib.hid (Hfin.out hS)
          go_wp2
          go_region
          all_goals
            go_wp2
            go_ret
            exact ⟨by rw [Hr2.out]; rfl, Hbel.out.drew⟩
      · have hkn : k = n := by omega
        subst hkn
        have hd1 : decide ((k : Int) < (k : Int)) = false := decide_eq_false (by omega)
        have Hr2 : Hid (eqHs l m = true) := eqHs_yes (by rw [Hl.out, Hl'.out]) (by rw [Hl.out]; exact H0.out)
        clear hlt hbel
        go_wp2
        go_ret
        exact ⟨by rw [Hr2.out]; rfl, Hbel.out⟩
  · have b1 : ((n : Int) != (n' : Int)) = true := by rw [bne_iff_ne]; omega
    have Hr2 : Hid (eqHs l m = false) := eqHs_len (by rw [Hl.out, Hl'.out]; exact hlen)
    clear hlen
    go_enter Try.func46, Try.ntmps46
    go_wp2
    go_ret
    exact ⟨by rw [Hr2.out]; rfl, Below.refl _ _⟩
set_option maxRecDepth 100000 in
set_option maxHeartbeats 2000000 in
theorem psame_any (p q : Pu) (A A' : Option Addr) (n c n' c' : Nat) (w : World) (h : PuV.At p A n c w) (h' : PuV.At q A' n' c' w) :
    Calls Try.prog 20 #[.agg #[.int .u8 (p.nm.x0 : Int), .int .u8 (p.nm.x1 : Int), .int .u8 (p.nm.x2 : Int), .int .u8 (p.nm.x3 : Int), .int .u8 (p.nm.x4 : Int), .int .u8 (p.nm.x5 : Int), .int .u8 (p.nm.x6 : Int), .int .u8 (p.nm.x7 : Int), .int .i64 p.no, .int .i64 p.h0, .int .i64 p.h1, .slice A n c], .agg #[.int .u8 (q.nm.x0 : Int), .int .u8 (q.nm.x1 : Int), .int .u8 (q.nm.x2 : Int), .int .u8 (q.nm.x3 : Int), .int .u8 (q.nm.x4 : Int), .int .u8 (q.nm.x5 : Int), .int .u8 (q.nm.x6 : Int), .int .u8 (q.nm.x7 : Int), .int .i64 q.no, .int .i64 q.h0, .int .i64 q.h1, .slice A' n' c']] w fun e w' => e = .returned (.bool (p.same q)) ∧ Below w.heap.size w w' := by
  have Hw := Lib.hid (below_two w (.cells #[.int .u8 (p.nm.x0 : Int), .int .u8 (p.nm.x1 : Int), .int .u8 (p.nm.x2 : Int), .int .u8 (p.nm.x3 : Int), .int .u8 (p.nm.x4 : Int), .int .u8 (p.nm.x5 : Int), .int .u8 (p.nm.x6 : Int), .int .u8 (p.nm.x7 : Int), .int .i64 p.no, .int .i64 p.h0, .int .i64 p.h1, .slice A n c] 32) (.cells #[.int .u8 (q.nm.x0 : Int), .int .u8 (q.nm.x1 : Int), .int .u8 (q.nm.x2 : Int), .int .u8 (q.nm.x3 : Int), .int .u8 (q.nm.x4 : Int), .int .u8 (q.nm.x5 : Int), .int .u8 (q.nm.x6 : Int), .int .u8 (q.nm.x7 : Int), .int .i64 q.no, .int .i64 q.h0, .int .i64 q.h1, .slice A' n' c'] 32))
  have H := Lib.hid (h.up Hw.out)
  have H' := Lib.hid (h'.up Hw.out)
  clear h h'
  cases e1 : eqI p.nm.L q.nm.L with
  | false =>
    have q1 : eqI [(p.nm.x0 : Int), (p.nm.x1 : Int), (p.nm.x2 : Int), (p.nm.x3 : Int), (p.nm.x4 : Int), (p.nm.x5 : Int), (p.nm.x6 : Int), (p.nm.x7 : Int)] [(q.nm.x0 : Int), (q.nm.x1 : Int), (q.nm.x2 : Int), (q.nm.x3 : Int), (q.nm.x4 : Int), (q.nm.x5 : Int), (q.nm.x6 : Int), (q.nm.x7 : Int)] = false := e1
    have Hr : Hid (p.same q = false) := by show _ = _; rw [same_eq, e1]; rfl
    clear e1
    have heq := eql_dig
    have heq2 := eql_two
    go_enter Try.func20, Try.ntmps20
    go_wp2
    go_ret
    exact ⟨ret_bool (by rw [Hr.out]), below_two _ _ _⟩
  | true =>
    have q1 : eqI [(p.nm.x0 : Int), (p.nm.x1 : Int), (p.nm.x2 : Int), (p.nm.x3 : Int), (p.nm.x4 : Int), (p.nm.x5 : Int), (p.nm.x6 : Int), (p.nm.x7 : Int)] [(q.nm.x0 : Int), (q.nm.x1 : Int), (q.nm.x2 : Int), (q.nm.x3 : Int), (q.nm.x4 : Int), (q.nm.x5 : Int), (q.nm.x6 : Int), (q.nm.x7 : Int)] = true := e1
    have E1 := Lib.hid e1
    clear e1
    cases e2 : (p.no == q.no) with
    | false =>
      have Hr : Hid (p.same q = false) := by show _ = _; rw [same_eq, E1.out, e2]; rfl
      have heq := eql_dig
      have heq2 := eql_two
      go_enter Try.func20, Try.ntmps20
      go_wp2
      go_ret
      exact ⟨ret_bool (by rw [Hr.out]), below_two _ _ _⟩
    | true =>
      have E2 := Lib.hid e2
      cases e3 : eqI [p.h0, p.h1] [q.h0, q.h1] with
      | false =>
        have Hr : Hid (p.same q = false) := by show _ = _; rw [same_eq, E1.out, e2, e3]; rfl
        have heq := eql_dig
        have heq2 := eql_two
        go_enter Try.func20, Try.ntmps20
        go_wp2
        go_ret
        exact ⟨ret_bool (by rw [Hr.out]), below_two _ _ _⟩
      | true =>
        have Hr : Hid (p.same q = eqHs p.held q.held) := by show _ = _; rw [same_eq, E1.out, e2, e3]; rfl
        have heq := eql_dig
        have heq2 := eql_two
        go_enter Try.func20, Try.ntmps20
        go_wp2_with fail
        refine (seq_any A A' n c n' c' p.held q.held _ H.out.rd H'.out.rd H.out.small H'.out.small).mono ?_
        rintro e w1 ⟨rfl, hb1⟩
        have Hw1 := Lib.hid (Hw.out.trans (hb1.mono Hw.out.size))
        clear hb1
        go_wp2
        go_ret
        exact ⟨ret_bool (by rw [Hr.out]), Hw1.out⟩
end Go.Proofs.Ytjiecnoplnaahaa
