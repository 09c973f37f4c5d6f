/- The walks of the reference's reader of layer 1: Fail, Read, End. Conditions: bounds on how many bytes. -/
import Derived.Test.YtecolkpnllikaaaDoorRefNum
import Derived.Test.YtecolkpnllikaaaDoorReadEnd
namespace Go.Proofs.YtecolkpnllikaaaDoor
open Go.RowKit Go.Lib

theorem Rd.upR {w w' : World} {B sz n : Nat} {A : Option Addr} {xs : List Value} (h : Rd w B sz A n xs) (hb : Below w.heap.size w w') (hB : B ≤ w.heap.size) : Rd w' w'.heap.size sz A n xs :=
  (h.below hb hB).more (Nat.le_trans hB hb.size)
theorem below_twoR (w : World) (a b : Obj) : Below w.heap.size w ((w.alloc a).alloc b) := ((Below.refl _ _).alloc (Nat.le_refl _) _).alloc (by simp) _
theorem fail_any (A : Option Addr) (n c : Nat) (at_ err e : Int) (w : World) :
    Calls Tryd.prog 53 #[.agg #[.slice A n c, .int .i64 at_, .int .i64 err], .int .i64 e] w fun e' w' => e' = .returned (.agg #[.slice A n c, .int .i64 at_, .int .i64 e]) ∧ Below w.heap.size w w' := by
  go_enter Tryd.func53, Tryd.ntmps53
  go_wp2
  exact bodyPost_ret (v := .agg #[.slice A n c, .int .i64 at_, .int .i64 e]) (by simp [results, Tryd.results53, go_sem]) rfl ⟨rfl, ((Below.refl _ _).alloc (Nat.le_refl _) _).alloc (by simp) _⟩
/-- A reader of the reference, as a value. -/
def rsV (A : Option Addr) (n c : Nat) (s : RS) : Value := .agg #[.slice A n c, .int .i64 (s.at_ : Int), .int .i64 s.err]
def GivesRS (A : Option Addr) (n c : Nat) (w : World) (s : RS) (m : Nat) (e : Ending) (w' : World) : Prop :=
  e = .returned (.tuple #[.agg #[.slice A n c, .int .i64 (s.at_ : Int), .int .i64 s.err], .int .u64 (m : Int)]) ∧ Below w.heap.size w w'
set_option maxRecDepth 100000 in
set_option maxHeartbeats 1000000 in
theorem readr_any (A : Option Addr) (n c most : Nat) (s : RS) (w : World) (hr : Rd w w.heap.size 1 A n (bv s.l)) (hnc : n ≤ c) (hn : n ≤ 1000000000) (hat : s.at_ ≤ n) (hb : ∀ x ∈ s.l, x < 256) :
    Calls Tryd.prog 51 #[.agg #[.slice A n c, .int .i64 (s.at_ : Int), .int .i64 s.err], .int .u64 (most : Int)] w (GivesRS A n c w (numRS s most).1 (numRS s most).2) := by
  obtain ⟨l, at_, err⟩ := s
  simp only at hr hat hb ⊢
  obtain ⟨A2, hrun, hrd⟩ := slice_from elem_u8 sizeOf_u8 hr hnc hat
  have Hrd : Hid (Rd w w.heap.size 1 A2 (n - at_) (bv (l.drop at_))) := by show Rd _ _ _ _ _ _; rw [bv_drop]; simpa using hrd
  have Hsm : Hid (∀ x ∈ l.drop at_, x < 256) := fun x hx => hb x (List.mem_of_mem_drop hx)
  have hln : l.length = n := by have := hr.1; rw [bv_len] at this; omega
  have Hlen : (take1 (l.drop at_) most).1 ≤ n - at_ := by have := take1_len (l.drop at_) most; rw [List.length_drop, hln] at this; exact this
  clear hr hb hrd hln
  by_cases he : err = 0
  · subst he
    by_cases h1 : (lookN (l.drop at_)).2.2 = 0
    · have b1 : ((lookN (l.drop at_)).2.2 == 0) = true := by simpa using h1
      have b2 : ((lookN (l.drop at_)).2.2 != 0) = false := by simpa using h1
      by_cases h2 : most < (lookN (l.drop at_)).1
      · have Hres : Hid (numRS ⟨l, at_, 0⟩ most = (⟨l, at_, 2⟩, 0)) := by show _ = _; simp [numRS, take1, h1, h2]
        have b3 : decide ((most : Int) < ((lookN (l.drop at_)).1 : Int)) = true := decide_eq_true (by omega)
        have b4 : decide (most < (lookN (l.drop at_)).1) = true := decide_eq_true h2
        clear h2
        clear h1 Hlen
        go_enter Tryd.func51, Tryd.ntmps51
        go_wp2_with fail
        refine (numberr_any A2 (n - at_) (c - at_) (l.drop at_) _ ?_ (by omega) Hsm.out).mono ?_
        · exact Hrd.out.upR (below_twoR _ _ _) (Nat.le_refl _)
        rintro e w1 ⟨rfl, rfl⟩
        go_wp2_with fail
        refine (fail_any A n c (at_ : Int) 0 _ _).mono ?_
        rintro e w1 ⟨rfl, hb1⟩
        have g0 := (bcell hb1).1 (w.heap.size + 1)
        have g1 := (bcell hb1).2 (w.heap.size + 1)
        
        have hz := hb1.size
        simp at hz
        have Hb1 := Lib.hid hb1
        clear hb1
        go_wp2
        refine bodyPost_ret (v := .tuple #[.agg #[.slice A n c, .int .i64 (at_ : Int), .int .i64 2], .int .u64 0]) (by simp [results, Tryd.results51, go_sem, g0]) rfl ⟨by rw [Hres.out]; rfl, ?_⟩
        exact (((((Below.refl _ _).alloc (Nat.le_refl _) _).alloc (by simp) _).trans (Hb1.out.mono (by simp; omega))).setCell (by simp) _).setCell (by simp) _ |>.setCell (by simp) _
      · have Hres : Hid (numRS ⟨l, at_, 0⟩ most = (⟨l, at_ + (lookN (l.drop at_)).2.1, 0⟩, (lookN (l.drop at_)).1)) := by show _ = _; simp [numRS, take1, h1, h2]
        have b3 : decide ((most : Int) < ((lookN (l.drop at_)).1 : Int)) = false := decide_eq_false (by omega)
        have b4 : decide (most < (lookN (l.drop at_)).1) = false := decide_eq_false h2
        have hk : (at_ : Int) + ((lookN (l.drop at_)).2.1 : Int) ≤ (n : Int) := by
          have e : take1 (l.drop at_) most = ((lookN (l.drop at_)).2.1, 0, (lookN (l.drop at_)).1) := by simp [take1, h1, h2]
          rw [e] at Hlen
          simp only at Hlen
          omega
        have hn' : (n : Int) ≤ 1000000000 := by omega
        clear h1 h2 Hlen
        go_enter Tryd.func51, Tryd.ntmps51
        go_wp2_with fail
        refine (numberr_any A2 (n - at_) (c - at_) (l.drop at_) _ ?_ (by omega) Hsm.out).mono ?_
        · exact Hrd.out.upR (below_twoR _ _ _) (Nat.le_refl _)
        rintro e w1 ⟨rfl, rfl⟩
        generalize (lookN (l.drop at_)).1 = v at *
        generalize (lookN (l.drop at_)).2.1 = k at *
        generalize (lookN (l.drop at_)).2.2 = er at *
        go_wp2
        refine bodyPost_ret (v := .tuple #[.agg #[.slice A n c, .int .i64 ((at_ : Int) + (k : Int)), .int .i64 0], .int .u64 (v : Int)]) (by simp [results, Tryd.results51, go_sem]) rfl ⟨by rw [Hres.out]; rfl, ?_⟩
        exact below_twoR _ _ _
    · have b1 : ((lookN (l.drop at_)).2.2 == 0) = false := by simpa using h1
      have b2 : ((lookN (l.drop at_)).2.2 != 0) = true := by simpa using h1
      have Hres : Hid (numRS ⟨l, at_, 0⟩ most = (⟨l, at_, (lookN (l.drop at_)).2.2⟩, 0)) := by show _ = _; simp [numRS, take1, h1]
      clear h1 Hlen
      go_enter Tryd.func51, Tryd.ntmps51
      go_wp2_with fail
      refine (numberr_any A2 (n - at_) (c - at_) (l.drop at_) _ ?_ (by omega) Hsm.out).mono ?_
      · exact Hrd.out.upR (below_twoR _ _ _) (Nat.le_refl _)
      rintro e w1 ⟨rfl, rfl⟩
      go_wp2_with fail
      refine (fail_any A n c (at_ : Int) 0 _ _).mono ?_
      rintro e w1 ⟨rfl, hb1⟩
      have g0 := (bcell hb1).1 (w.heap.size + 1)
      have g1 := (bcell hb1).2 (w.heap.size + 1)
      
      have hz := hb1.size
      simp at hz
      have Hb1 := Lib.hid hb1
      clear hb1
      go_wp2
      refine bodyPost_ret (v := .tuple #[.agg #[.slice A n c, .int .i64 (at_ : Int), .int .i64 (lookN (l.drop at_)).2.2], .int .u64 0]) (by simp [results, Tryd.results51, go_sem, g0]) rfl ⟨by rw [Hres.out]; rfl, ?_⟩
      exact (((((Below.refl _ _).alloc (Nat.le_refl _) _).alloc (by simp) _).trans (Hb1.out.mono (by simp; omega))).setCell (by simp) _).setCell (by simp) _ |>.setCell (by simp) _
  · have b1 : (err != 0) = true := by simpa using he
    have Hres : Hid (numRS ⟨l, at_, err⟩ most = (⟨l, at_, err⟩, 0)) := by show _ = _; simp [numRS, he]
    clear he Hlen
    go_enter Tryd.func51, Tryd.ntmps51
    go_wp2
    refine bodyPost_ret (v := .tuple #[.agg #[.slice A n c, .int .i64 (at_ : Int), .int .i64 err], .int .u64 0]) (by simp [results, Tryd.results51, go_sem]) rfl ⟨by rw [Hres.out]; rfl, ?_⟩
    exact below_twoR _ _ _
set_option maxRecDepth 100000 in
theorem endr_any (A : Option Addr) (n c : Nat) (s : RS) (w : World) (hl : s.l.length = n) :
    Calls Tryd.prog 55 #[.agg #[.slice A n c, .int .i64 (s.at_ : Int), .int .i64 s.err]] w fun e w' => e = .returned (.int .i64 (endRS s)) ∧ Below w.heap.size w w' := by
  obtain ⟨l, at_, err⟩ := s
  simp only at hl ⊢
  by_cases he : err = 0
  · have b1 : (err == 0) = true := by simpa using he
    by_cases h2 : at_ < n
    · have Hres : Hid (endRS ⟨l, at_, err⟩ = 5) := by show _ = _; simp [endRS, he, hl, h2]
      have b2 : decide ((at_ : Int) < (n : Int)) = true := decide_eq_true (by omega)
      clear he hl
      go_enter Tryd.func55, Tryd.ntmps55
      go_wp2
      go_ret
      exact ⟨by rw [Hres.out]; rfl, (Below.refl _ _).alloc (Nat.le_refl _) _⟩
    · have Hres : Hid (endRS ⟨l, at_, err⟩ = err) := by show _ = _; simp [endRS, he, hl, h2]
      have b2 : decide ((at_ : Int) < (n : Int)) = false := decide_eq_false (by omega)
      clear he hl
      go_enter Tryd.func55, Tryd.ntmps55
      go_wp2
      go_ret
      exact ⟨by rw [Hres.out]; rfl, (Below.refl _ _).alloc (Nat.le_refl _) _⟩
  · have b1 : (err == 0) = false := by simpa using he
    have Hres : Hid (endRS ⟨l, at_, err⟩ = err) := by show _ = _; simp [endRS, he]
    clear he hl
    go_enter Tryd.func55, Tryd.ntmps55
    go_wp2
    go_ret
    exact ⟨by rw [Hres.out]; rfl, (Below.refl _ _).alloc (Nat.le_refl _) _⟩
end Go.Proofs.YtecolkpnllikaaaDoor
