/- The walks of transactions: who gets how much by a body, what is wrong. Conditions: bounds on how many bytes. -/
import Derived.Test.YtebepgoaofhelaaDig
import Derived.Test.YtebepgoaofhelaaJoinA
import Derived.Test.YtebepgoaofhelaaByt2
namespace Go.Proofs.Ytebepgoaofhelaa
open Go.RowKit Go.Lib


/-- A transaction in memory. -/
structure TxV where
  d : D8
  no : Int
  fe : Int
  ki : Int
  A : Option Addr
  n : Nat
  c : Nat
  A' : Option Addr
  n' : Nat
  c' : Nat
  bo : List Nat
  si : List Nat
structure TxV.At (t : TxV) (w : World) : Prop where
  ok : t.d.ok
  r1 : Rd w w.heap.size 1 t.A t.n (bv t.bo)
  r2 : Rd w w.heap.size 1 t.A' t.n' (bv t.si)
  c1 : t.n ≤ t.c
  c2 : t.n' ≤ t.c'
  b1 : ∀ x ∈ t.bo, x < 256
  b2 : ∀ x ∈ t.si, x < 256
  m1 : t.n ≤ 100000000
  m2 : t.n' ≤ 100000000
theorem TxV.At.up {t : TxV} {w w' : World} (h : t.At w) (hb : Below w.heap.size w w') : t.At w' :=
  ⟨h.ok, h.r1.up hb (Nat.le_refl _), h.r2.up hb (Nat.le_refl _), h.c1, h.c2, h.b1, h.b2, h.m1, h.m2⟩
theorem TxV.At.len1 {t : TxV} {w : World} (h : t.At w) : t.bo.length = t.n := h.r1.blen
theorem TxV.At.len2 {t : TxV} {w : World} (h : t.At w) : t.si.length = t.n' := h.r2.blen
theorem below_one (w : World) (a : Obj) : Below w.heap.size w (w.alloc a) := (Below.refl _ _).alloc (Nat.le_refl _) _

theorem below_gr {g : Nat} {a w w' : World} (h : Below a.heap.size a w) (hg : w.grownBy w' (some g)) (hB : a.heap.size ≤ g) : Below a.heap.size a w' :=
  h.grown hg h.size (fun k hk => by cases hk; exact hB)
def upB (n m : Int) : Bool := decide (0 ≤ n) && decide (n ≤ m)
theorem upB_iff {n m : Int} : upB n m = true ↔ 0 ≤ n ∧ n ≤ m := by simp [upB]
theorem upB_no {n m : Int} : upB n m = false ↔ ¬ (0 ≤ n ∧ n ≤ m) := by rw [← upB_iff]; simp
set_option maxRecDepth 100000 in
theorem upTo_any (n m : Int) (w : World) : Calls Try.prog 43 #[.int .i64 n, .int .i64 m] w fun e w' => e = .returned (.bool (upB n m)) ∧ w = w' := by
  by_cases h : 0 ≤ n
  · by_cases h2 : n ≤ m
    · have Hr := Lib.hid (upB_iff.2 ⟨h, h2⟩)
      have q1 : decide (0 ≤ n) = true := decide_eq_true h
      have q2 : decide (n ≤ m) = true := decide_eq_true h2
      clear h h2
      go_enter Try.func43, Try.ntmps43
      go_wp2
      go_ret
      exact ⟨ret_bool Hr.out.symm, rfl⟩
    · have Hr := Lib.hid (upB_no.2 (fun e => h2 e.2))
      have q1 : decide (0 ≤ n) = true := decide_eq_true h
      have q2 : decide (n ≤ m) = false := decide_eq_false h2
      clear h h2
      go_enter Try.func43, Try.ntmps43
      go_wp2
      go_ret
      exact ⟨ret_bool Hr.out.symm, rfl⟩
  · have Hr := Lib.hid (upB_no.2 (fun e => h (e.1 : 0 ≤ n)) : upB n m = false)
    have q1 : decide (0 ≤ n) = false := decide_eq_false h
    clear h
    go_enter Try.func43, Try.ntmps43
    go_wp2
    go_ret
    exact ⟨ret_bool Hr.out.symm, rfl⟩

def d0 : D8 := ⟨0, 0, 0, 0, 0, 0, 0, 0⟩
/-- Who gets how much, and what is wrong. -/
def paidT (ki : Int) (bo : List Nat) : D8 × Int × Int :=
  if ki = 0 then
    let s1 := numRS ⟨bo, 0, 0⟩ 18446744073709551615
    let s2 := numRS s1.1 1125899906842624
    if endRS s2.1 = 0 then (D8.of s1.2, (s2.2 : Int), 0) else (d0, 0, endRS s2.1)
  else (d0, 0, 11)
theorem numRS_le (s : RS) (m : Nat) : (numRS s m).2 ≤ m := by
  unfold numRS
  split
  · simp
  · split
    · simp
    · rename_i h1 h2
      simp only
      unfold take1 at h2 ⊢
      split at h2
      · rename_i h3; simp [h3] at h2
      · split at h2
        · simp at h2
        · rename_i h3 h4; rw [if_neg h3, if_neg h4]; simp only; omega
theorem numRS_l (s : RS) (m : Nat) : (numRS s m).1.l = s.l := by
  unfold numRS
  split
  · rfl
  · split <;> rfl
theorem numRS_at (s : RS) (m : Nat) (h : s.at_ ≤ s.l.length) : (numRS s m).1.at_ ≤ (numRS s m).1.l.length := by
  have hl := numRS_l s m
  rw [hl]
  unfold numRS
  split
  · exact h
  · split
    · exact h
    · have := take1_len (s.l.drop s.at_) m
      rw [List.length_drop] at this
      simp only; omega
def GivesPaid (w : World) (x : D8 × Int × Int) (e : Ending) (w' : World) : Prop :=
  e = .returned (.tuple #[.agg #[.int .u8 (x.1.x0 : Int), .int .u8 (x.1.x1 : Int), .int .u8 (x.1.x2 : Int), .int .u8 (x.1.x3 : Int), .int .u8 (x.1.x4 : Int), .int .u8 (x.1.x5 : Int), .int .u8 (x.1.x6 : Int), .int .u8 (x.1.x7 : Int)], .int .i64 x.2.1, .int .i64 x.2.2]) ∧ Below w.heap.size w w'
set_option maxRecDepth 100000 in
set_option maxHeartbeats 1000000 in
theorem paid_any (t : TxV) (w : World) (h : t.At w) : Calls Try.prog 11 #[.agg #[.int .u8 (t.d.x0 : Int), .int .u8 (t.d.x1 : Int), .int .u8 (t.d.x2 : Int), .int .u8 (t.d.x3 : Int), .int .u8 (t.d.x4 : Int), .int .u8 (t.d.x5 : Int), .int .u8 (t.d.x6 : Int), .int .u8 (t.d.x7 : Int), .int .i64 t.no, .int .i64 t.fe, .int .i64 t.ki, .slice t.A t.n t.c, .slice t.A' t.n' t.c']] w (GivesPaid w (paidT t.ki t.bo)) := by
  have H := Lib.hid h
  clear h
  by_cases hk : t.ki = 0
  · have b1 : (t.ki != 0) = false := by simpa using hk
    have Hp : Hid (paidT t.ki t.bo = if endRS (numRS (numRS ⟨t.bo, 0, 0⟩ 18446744073709551615).1 1125899906842624).1 = 0 then (D8.of (numRS ⟨t.bo, 0, 0⟩ 18446744073709551615).2, ((numRS (numRS ⟨t.bo, 0, 0⟩ 18446744073709551615).1 1125899906842624).2 : Int), 0) else (d0, 0, endRS (numRS (numRS ⟨t.bo, 0, 0⟩ 18446744073709551615).1 1125899906842624).1)) := by
      show _ = _; unfold paidT; rw [if_pos hk]
    clear hk
    have hv := numRS_le ⟨t.bo, 0, 0⟩ 18446744073709551615
    have hv2 := numRS_le (numRS ⟨t.bo, 0, 0⟩ 18446744073709551615).1 1125899906842624
    have Hv := Lib.hid hv
    clear hv
    go_enter Try.func11, Try.ntmps11
    go_wp2_with fail
    refine (newReader_any t.A t.n t.c t.bo _ ?_ (by have := H.out.m1; omega) H.out.b1).mono ?_
    · exact H.out.r1.up (below_two _ _ _) (Nat.le_refl _)
    rintro e w1 ⟨b, rfl, hat, hb, hbel⟩
    have hz := hbel.size
    simp at hz hb
    have T2 := block_below (heap_alloc_new _ _) hbel (by simp)
    rw [World.size_alloc] at T2
    have Hat := Lib.hid hat; have Hb1 := Lib.hid ((below_two w _ _).trans (hbel.mono (by simp; omega))); have HT2 := Lib.hid T2
    clear hat hbel T2
    go_wp2_with fail
    refine (num_at b _ _ w1 Hat.out (by omega)).mono ?_
    rintro e w2 ⟨rfl, hat2, hg2⟩
    have Hat2 := Lib.hid hat2
    have HT2b := Lib.hid ((hg2.block (w.heap.size + 1) (by omega) (by simp; omega)).trans HT2.out)
    have Hb2 := Lib.hid (below_gr Hb1.out hg2 (by omega))
    have hz2 := hg2.size
    clear hat2 hg2
    rw [show (18446744073709551615 : Int).toNat = 18446744073709551615 from rfl] at Hat2 ⊢
    generalize numRS ⟨t.bo, 0, 0⟩ 18446744073709551615 = r1 at *
    obtain ⟨s1, v1⟩ := r1
    simp only at Hat2 Hv hv2 Hp ⊢
    go_wp2_with fail
    refine (hfrom_any v1 w2 (by have := Hv.out; omega)).mono ?_
    rintro e w3 ⟨rfl, hb3⟩
    have HT2c := Lib.hid (block_below HT2b.out hb3 (by omega))
    have Hat3 := Lib.hid (Hat2.out.below hb3 (by have := Hat2.out.lt; omega))
    have Hb3 := Lib.hid (Hb2.out.trans (hb3.mono (by omega)))
    have hz3 := hb3.size
    have hblt := Hat2.out.lt
    clear hb3
    have Hat3a := Lib.hid (Hat3.out.below (below_one w3 (.cells #[.int .u8 ((D8.of v1).x0 : Int), .int .u8 ((D8.of v1).x1 : Int), .int .u8 ((D8.of v1).x2 : Int), .int .u8 ((D8.of v1).x3 : Int), .int .u8 ((D8.of v1).x4 : Int), .int .u8 ((D8.of v1).x5 : Int), .int .u8 ((D8.of v1).x6 : Int), .int .u8 ((D8.of v1).x7 : Int)] 23)) (by omega))
    have HT2d := Lib.hid (block_alloc HT2c.out (.cells #[.int .u8 ((D8.of v1).x0 : Int), .int .u8 ((D8.of v1).x1 : Int), .int .u8 ((D8.of v1).x2 : Int), .int .u8 ((D8.of v1).x3 : Int), .int .u8 ((D8.of v1).x4 : Int), .int .u8 ((D8.of v1).x5 : Int), .int .u8 ((D8.of v1).x6 : Int), .int .u8 ((D8.of v1).x7 : Int)] 23))
    have HT6 := Lib.hid (heap_alloc_new w3 (.cells #[.int .u8 ((D8.of v1).x0 : Int), .int .u8 ((D8.of v1).x1 : Int), .int .u8 ((D8.of v1).x2 : Int), .int .u8 ((D8.of v1).x3 : Int), .int .u8 ((D8.of v1).x4 : Int), .int .u8 ((D8.of v1).x5 : Int), .int .u8 ((D8.of v1).x6 : Int), .int .u8 ((D8.of v1).x7 : Int)] 23))
    have Hb3a := Lib.hid (Hb3.out.alloc (by omega) (.cells #[.int .u8 ((D8.of v1).x0 : Int), .int .u8 ((D8.of v1).x1 : Int), .int .u8 ((D8.of v1).x2 : Int), .int .u8 ((D8.of v1).x3 : Int), .int .u8 ((D8.of v1).x4 : Int), .int .u8 ((D8.of v1).x5 : Int), .int .u8 ((D8.of v1).x6 : Int), .int .u8 ((D8.of v1).x7 : Int)] 23))
    go_wp2_with fail
    refine (num_at b _ _ _ Hat3a.out (by omega)).mono ?_
    rintro e w4 ⟨rfl, hat4, hg4⟩
    have Hat4 := Lib.hid hat4
    have HT2e := Lib.hid ((hg4.block (w.heap.size + 1) (by simp; omega) (by simp; omega)).trans HT2d.out)
    have HT6e := Lib.hid ((hg4.block w3.heap.size (by simp) (by simp; omega)).trans HT6.out)
    have Hb4 := Lib.hid (below_gr Hb3a.out hg4 (by omega))
    clear hat4 hg4
    rw [show (1125899906842624 : Int).toNat = 1125899906842624 from rfl] at Hat4 ⊢
    generalize numRS s1 1125899906842624 = r2 at *
    obtain ⟨s2, v2⟩ := r2
    simp only at Hat4 hv2 Hp ⊢
    have hv2' : (v2 : Int) ≤ 1125899906842624 := by omega
    go_wp2_with fail
    refine (end_any b s2 w4 Hat4.out).mono ?_
    rintro e w5 ⟨rfl, k, rfl⟩
    have t0 := block_cell HT6e.out
    have y0 := block_cell HT2e.out
    have yf := block_free HT2e.out
    have g0 := t0 0; have g1 := t0 1; have g2 := t0 2; have g3 := t0 3; have g4 := t0 4; have g5 := t0 5; have g6 := t0 6; have g7 := t0 7
    have k0 := y0 0; have k1 := y0 1; have k2 := y0 2; have k3 := y0 3; have k4 := y0 4; have k5 := y0 5; have k6 := y0 6; have k7 := y0 7
    simp at g0 g1 g2 g3 g4 g5 g6 g7 k0 k1 k2 k3 k4 k5 k6 k7
    clear t0 y0
    by_cases he : endRS s2 = 0
    · have b2 : (endRS s2 != 0) = false := by simpa using he
      rw [if_pos he] at Hp
      clear he
      go_wp2
      refine bodyPost_ret (v := .tuple #[.agg #[.int .u8 ((D8.of v1).x0 : Int), .int .u8 ((D8.of v1).x1 : Int), .int .u8 ((D8.of v1).x2 : Int), .int .u8 ((D8.of v1).x3 : Int), .int .u8 ((D8.of v1).x4 : Int), .int .u8 ((D8.of v1).x5 : Int), .int .u8 ((D8.of v1).x6 : Int), .int .u8 ((D8.of v1).x7 : Int)], .int .i64 (v2 : Int), .int .i64 0]) (by simp [results, Try.results11, go_sem, k0, k1, k2, k3, k4, k5, k6, k7]) rfl ⟨by rw [Hp.out], ?_⟩
      exact (((((((((below_drewN Hb4.out k)).setCell (by simp) _).setCell (by simp) _).setCell (by simp) _).setCell (by simp) _).setCell (by simp) _).setCell (by simp) _).setCell (by simp) _).setCell (by simp) _
    · have b2 : (endRS s2 != 0) = true := by simpa using he
      rw [if_neg he] at Hp
      clear he
      go_wp2
      refine bodyPost_ret (v := .tuple #[.agg #[.int .u8 0, .int .u8 0, .int .u8 0, .int .u8 0, .int .u8 0, .int .u8 0, .int .u8 0, .int .u8 0], .int .i64 0, .int .i64 (endRS s2)]) (by simp [results, Try.results11, go_sem, k0, k1, k2, k3, k4, k5, k6, k7]) rfl ⟨by rw [Hp.out]; rfl, ?_⟩
      exact (((((((((below_drewN Hb4.out k)).setCell (by simp) _).setCell (by simp) _).setCell (by simp) _).setCell (by simp) _).setCell (by simp) _).setCell (by simp) _).setCell (by simp) _).setCell (by simp) _
  · have b1 : (t.ki != 0) = true := by simpa using hk
    have Hp : Hid (paidT t.ki t.bo = (d0, 0, 11)) := by show _ = _; unfold paidT; rw [if_neg hk]
    clear hk
    go_enter Try.func11, Try.ntmps11
    go_wp2
    refine bodyPost_ret (v := .tuple #[.agg #[.int .u8 0, .int .u8 0, .int .u8 0, .int .u8 0, .int .u8 0, .int .u8 0, .int .u8 0, .int .u8 0], .int .i64 0, .int .i64 11]) (by simp [results, Try.results11, go_sem]) rfl ⟨by rw [Hp.out]; rfl, ?_⟩
    exact below_two _ _ _
end Go.Proofs.Ytebepgoaofhelaa
