/- Names of two facts on memory, for layer 25. Condition: none. The walks of transactions: who gets how much by a body, what is wrong. Conditions: bounds on how many bytes. The walks of transactions: what is wrong, the bytes, the example. Conditions: bounds on how many bytes. The walks of transactions: Encode, PayTo, the chapter's example. Conditions: bounds on how many bytes. -/
import Derived.Test.YthjpaclcoipocaaGreatJoinA
import Derived.Test.YthjpaclcoipocaaGreatDig
import Derived.Test.YthjpaclcoipocaaGreatByt2
namespace Go.Proofs.YthjpaclcoipocaaGreat
open Go.RowKit Go.Lib
theorem Rd.up {w w' : World} {B sz n : Nat} {A : Option Addr} {xs : List Value} (h : Rd w B sz A n xs) (hb : Below w.heap.size w w') (hB : B ≤ w.heap.size) : Rd w' w'.heap.size sz A n xs := h.upR hb hB
theorem below_two (w : World) (a b : Obj) : Below w.heap.size w ((w.alloc a).alloc b) := below_twoR w a b
end Go.Proofs.YthjpaclcoipocaaGreat
namespace Go.Proofs.YthjpaclcoipocaaGreat
open Go.RowKit Go.Lib


/-- A transaction in memory. -/
structure TxV where
  d : D8
  no : Int
  fe : Int
  ki : Int
  A : Option Addr
  n : Nat
  c : Nat
  A' : Option Addr
  n' : Nat
  c' : Nat
  bo : List Nat
  si : List Nat
structure TxV.At (t : TxV) (w : World) : Prop where
  ok : t.d.ok
  r1 : Rd w w.heap.size 1 t.A t.n (bv t.bo)
  r2 : Rd w w.heap.size 1 t.A' t.n' (bv t.si)
  c1 : t.n ≤ t.c
  c2 : t.n' ≤ t.c'
  b1 : ∀ x ∈ t.bo, x < 256
  b2 : ∀ x ∈ t.si, x < 256
  m1 : t.n ≤ 100000000
  m2 : t.n' ≤ 100000000
theorem TxV.At.up {t : TxV} {w w' : World} (h : t.At w) (hb : Below w.heap.size w w') : t.At w' :=
  ⟨h.ok, h.r1.up hb (Nat.le_refl _), h.r2.up hb (Nat.le_refl _), h.c1, h.c2, h.b1, h.b2, h.m1, h.m2⟩
theorem TxV.At.len1 {t : TxV} {w : World} (h : t.At w) : t.bo.length = t.n := h.r1.blen
theorem TxV.At.len2 {t : TxV} {w : World} (h : t.At w) : t.si.length = t.n' := h.r2.blen
theorem below_one (w : World) (a : Obj) : Below w.heap.size w (w.alloc a) := (Below.refl _ _).alloc (Nat.le_refl _) _

theorem below_gr {g : Nat} {a w w' : World} (h : Below a.heap.size a w) (hg : w.grownBy w' (some g)) (hB : a.heap.size ≤ g) : Below a.heap.size a w' :=
  h.grown hg h.size (fun k hk => by cases hk; exact hB)
def upB (n m : Int) : Bool := decide (0 ≤ n) && decide (n ≤ m)
theorem upB_iff {n m : Int} : upB n m = true ↔ 0 ≤ n ∧ n ≤ m := by simp [upB]
theorem upB_no {n m : Int} : upB n m = false ↔ ¬ (0 ≤ n ∧ n ≤ m) := by rw [← upB_iff]; simp
set_option maxRecDepth 100000 in
theorem upTo_any (n m : Int) (w : World) : Calls Tryz.prog 22 #[.int .i64 n, .int .i64 m] w fun e w' => e = .returned (.bool (upB n m)) ∧ w = w' := by
  by_cases h : 0 ≤ n
  · by_cases h2 : n ≤ m
    · have Hr := Lib.hid (upB_iff.2 ⟨h, h2⟩)
      have q1 : decide (0 ≤ n) = true := decide_eq_true h
      have q2 : decide (n ≤ m) = true := decide_eq_true h2
      clear h h2
      go_enter Tryz.func22, Tryz.ntmps22
      go_wp2
      go_ret
      exact ⟨ret_bool Hr.out.symm, rfl⟩
    · have Hr := Lib.hid (upB_no.2 (fun e => h2 e.2))
      have q1 : decide (0 ≤ n) = true := decide_eq_true h
      have q2 : decide (n ≤ m) = false := decide_eq_false h2
      clear h h2
      go_enter Tryz.func22, Tryz.ntmps22
      go_wp2
      go_ret
      exact ⟨ret_bool Hr.out.symm, rfl⟩
  · have Hr := Lib.hid (upB_no.2 (fun e => h (e.1 : 0 ≤ n)) : upB n m = false)
    have q1 : decide (0 ≤ n) = false := decide_eq_false h
    clear h
    go_enter Tryz.func22, Tryz.ntmps22
    go_wp2
    go_ret
    exact ⟨ret_bool Hr.out.symm, rfl⟩

def d0 : D8 := ⟨0, 0, 0, 0, 0, 0, 0, 0⟩
/-- Who gets how much, and what is wrong. -/
def paidT (ki : Int) (bo : List Nat) : D8 × Int × Int :=
  if ki = 0 then
    let s1 := numRS ⟨bo, 0, 0⟩ 18446744073709551615
    let s2 := numRS s1.1 1125899906842624
    if endRS s2.1 = 0 then (D8.of s1.2, (s2.2 : Int), 0) else (d0, 0, endRS s2.1)
  else (d0, 0, 11)
theorem numRS_leT (s : RS) (m : Nat) : (numRS s m).2 ≤ m := by
  unfold numRS
  split
  · simp
  · split
    · simp
    · rename_i h1 h2
      simp only
      unfold take1 at h2 ⊢
      split at h2
      · rename_i h3; simp [h3] at h2
      · split at h2
        · simp at h2
        · rename_i h3 h4; rw [if_neg h3, if_neg h4]; simp only; omega
theorem numRS_lT (s : RS) (m : Nat) : (numRS s m).1.l = s.l := by
  unfold numRS
  split
  · rfl
  · split <;> rfl
theorem numRS_at (s : RS) (m : Nat) (h : s.at_ ≤ s.l.length) : (numRS s m).1.at_ ≤ (numRS s m).1.l.length := by
  have hl := numRS_lT s m
  rw [hl]
  unfold numRS
  split
  · exact h
  · split
    · exact h
    · have := take1_len (s.l.drop s.at_) m
      rw [List.length_drop] at this
      simp only; omega
def GivesPaid (w : World) (x : D8 × Int × Int) (e : Ending) (w' : World) : Prop :=
  e = .returned (.tuple #[.agg #[.int .u8 (x.1.x0 : Int), .int .u8 (x.1.x1 : Int), .int .u8 (x.1.x2 : Int), .int .u8 (x.1.x3 : Int), .int .u8 (x.1.x4 : Int), .int .u8 (x.1.x5 : Int), .int .u8 (x.1.x6 : Int), .int .u8 (x.1.x7 : Int)], .int .i64 x.2.1, .int .i64 x.2.2]) ∧ Below w.heap.size w w'
set_option maxRecDepth 100000 in
set_option maxHeartbeats 1000000 in
theorem paid_any (t : TxV) (w : World) (h : t.At w) : Calls Tryz.prog 23 #[.agg #[.int .u8 (t.d.x0 : Int), .int .u8 (t.d.x1 : Int), .int .u8 (t.d.x2 : Int), .int .u8 (t.d.x3 : Int), .int .u8 (t.d.x4 : Int), .int .u8 (t.d.x5 : Int), .int .u8 (t.d.x6 : Int), .int .u8 (t.d.x7 : Int), .int .i64 t.no, .int .i64 t.fe, .int .i64 t.ki, .slice t.A t.n t.c, .slice t.A' t.n' t.c']] w (GivesPaid w (paidT t.ki t.bo)) := by
  have H := Lib.hid h
  clear h
  by_cases hk : t.ki = 0
  · have b1 : (t.ki != 0) = false := by simpa using hk
    have Hp : Hid (paidT t.ki t.bo = if endRS (numRS (numRS ⟨t.bo, 0, 0⟩ 18446744073709551615).1 1125899906842624).1 = 0 then (D8.of (numRS ⟨t.bo, 0, 0⟩ 18446744073709551615).2, ((numRS (numRS ⟨t.bo, 0, 0⟩ 18446744073709551615).1 1125899906842624).2 : Int), 0) else (d0, 0, endRS (numRS (numRS ⟨t.bo, 0, 0⟩ 18446744073709551615).1 1125899906842624).1)) := by
      show _ = _; unfold paidT; rw [if_pos hk]
    clear hk
    have hv := numRS_leT ⟨t.bo, 0, 0⟩ 18446744073709551615
    have hv2 := numRS_leT (numRS ⟨t.bo, 0, 0⟩ 18446744073709551615).1 1125899906842624
    have Hv := Lib.hid hv
    clear hv
    go_enter Tryz.func23, Tryz.ntmps23
    go_wp2_with fail
    refine (newReader_any t.A t.n t.c t.bo _ ?_ (by have := H.out.m1; omega) H.out.b1).mono ?_
    · exact H.out.r1.up (below_two _ _ _) (Nat.le_refl _)
    rintro e w1 ⟨b, rfl, hat, hb, hbel⟩
    have hz := hbel.size
    simp at hz hb
    have T2 := block_below (heap_alloc_new _ _) hbel (by simp)
    rw [World.size_alloc] at T2
    have Hat := Lib.hid hat; have Hb1 := Lib.hid ((below_two w _ _).trans (hbel.mono (by simp; omega))); have HT2 := Lib.hid T2
    clear hat hbel T2
    go_wp2_with fail
    refine (num_at b _ _ w1 Hat.out (by omega)).mono ?_
    rintro e w2 ⟨rfl, hat2, hg2⟩
    have Hat2 := Lib.hid hat2
    have HT2b := Lib.hid ((hg2.block (w.heap.size + 1) (by omega) (by simp; omega)).trans HT2.out)
    have Hb2 := Lib.hid (below_gr Hb1.out hg2 (by omega))
    have hz2 := hg2.size
    clear hat2 hg2
    rw [show (18446744073709551615 : Int).toNat = 18446744073709551615 from rfl] at Hat2 ⊢
    generalize numRS ⟨t.bo, 0, 0⟩ 18446744073709551615 = r1 at *
    obtain ⟨s1, v1⟩ := r1
    simp only at Hat2 Hv hv2 Hp ⊢
    go_wp2_with fail
    refine (hfrom_any v1 w2 (by have := Hv.out; omega)).mono ?_
    rintro e w3 ⟨rfl, hb3⟩
    have HT2c := Lib.hid (block_below HT2b.out hb3 (by omega))
    have Hat3 := Lib.hid (Hat2.out.below hb3 (by have := Hat2.out.lt; omega))
    have Hb3 := Lib.hid (Hb2.out.trans (hb3.mono (by omega)))
    have hz3 := hb3.size
    have hblt := Hat2.out.lt
    clear hb3
    have Hat3a := Lib.hid (Hat3.out.below (below_one w3 (.cells #[.int .u8 ((D8.of v1).x0 : Int), .int .u8 ((D8.of v1).x1 : Int), .int .u8 ((D8.of v1).x2 : Int), .int .u8 ((D8.of v1).x3 : Int), .int .u8 ((D8.of v1).x4 : Int), .int .u8 ((D8.of v1).x5 : Int), .int .u8 ((D8.of v1).x6 : Int), .int .u8 ((D8.of v1).x7 : Int)] 30)) (by omega))
    have HT2d := Lib.hid (block_alloc HT2c.out (.cells #[.int .u8 ((D8.of v1).x0 : Int), .int .u8 ((D8.of v1).x1 : Int), .int .u8 ((D8.of v1).x2 : Int), .int .u8 ((D8.of v1).x3 : Int), .int .u8 ((D8.of v1).x4 : Int), .int .u8 ((D8.of v1).x5 : Int), .int .u8 ((D8.of v1).x6 : Int), .int .u8 ((D8.of v1).x7 : Int)] 30))
    have HT6 := Lib.hid (heap_alloc_new w3 (.cells #[.int .u8 ((D8.of v1).x0 : Int), .int .u8 ((D8.of v1).x1 : Int), .int .u8 ((D8.of v1).x2 : Int), .int .u8 ((D8.of v1).x3 : Int), .int .u8 ((D8.of v1).x4 : Int), .int .u8 ((D8.of v1).x5 : Int), .int .u8 ((D8.of v1).x6 : Int), .int .u8 ((D8.of v1).x7 : Int)] 30))
    have Hb3a := Lib.hid (Hb3.out.alloc (by omega) (.cells #[.int .u8 ((D8.of v1).x0 : Int), .int .u8 ((D8.of v1).x1 : Int), .int .u8 ((D8.of v1).x2 : Int), .int .u8 ((D8.of v1).x3 : Int), .int .u8 ((D8.of v1).x4 : Int), .int .u8 ((D8.of v1).x5 : Int), .int .u8 ((D8.of v1).x6 : Int), .int .u8 ((D8.of v1).x7 : Int)] 30))
    go_wp2_with fail
    refine (num_at b _ _ _ Hat3a.out (by omega)).mono ?_
    rintro e w4 ⟨rfl, hat4, hg4⟩
    have Hat4 := Lib.hid hat4
    have HT2e := Lib.hid ((hg4.block (w.heap.size + 1) (by simp; omega) (by simp; omega)).trans HT2d.out)
    have HT6e := Lib.hid ((hg4.block w3.heap.size (by simp) (by simp; omega)).trans HT6.out)
    have Hb4 := Lib.hid (below_gr Hb3a.out hg4 (by omega))
    clear hat4 hg4
    rw [show (1125899906842624 : Int).toNat = 1125899906842624 from rfl] at Hat4 ⊢
    generalize numRS s1 1125899906842624 = r2 at *
    obtain ⟨s2, v2⟩ := r2
    simp only at Hat4 hv2 Hp ⊢
    have hv2' : (v2 : Int) ≤ 1125899906842624 := by omega
    go_wp2_with fail
    refine (end_any b s2 w4 Hat4.out).mono ?_
    rintro e w5 ⟨rfl, k, rfl⟩
    have t0 := block_cell HT6e.out
    have y0 := block_cell HT2e.out
    have yf := block_free HT2e.out
    have g0 := t0 0; have g1 := t0 1; have g2 := t0 2; have g3 := t0 3; have g4 := t0 4; have g5 := t0 5; have g6 := t0 6; have g7 := t0 7
    have k0 := y0 0; have k1 := y0 1; have k2 := y0 2; have k3 := y0 3; have k4 := y0 4; have k5 := y0 5; have k6 := y0 6; have k7 := y0 7
    simp at g0 g1 g2 g3 g4 g5 g6 g7 k0 k1 k2 k3 k4 k5 k6 k7
    clear t0 y0
    by_cases he : endRS s2 = 0
    · have b2 : (endRS s2 != 0) = false := by simpa using he
      rw [if_pos he] at Hp
      clear he
      go_wp2
      refine bodyPost_ret (v := .tuple #[.agg #[.int .u8 ((D8.of v1).x0 : Int), .int .u8 ((D8.of v1).x1 : Int), .int .u8 ((D8.of v1).x2 : Int), .int .u8 ((D8.of v1).x3 : Int), .int .u8 ((D8.of v1).x4 : Int), .int .u8 ((D8.of v1).x5 : Int), .int .u8 ((D8.of v1).x6 : Int), .int .u8 ((D8.of v1).x7 : Int)], .int .i64 (v2 : Int), .int .i64 0]) (by simp [results, Tryz.results23, go_sem, k0, k1, k2, k3, k4, k5, k6, k7]) rfl ⟨by rw [Hp.out], ?_⟩
      exact (((((((((below_drewN Hb4.out k)).setCell (by simp) _).setCell (by simp) _).setCell (by simp) _).setCell (by simp) _).setCell (by simp) _).setCell (by simp) _).setCell (by simp) _).setCell (by simp) _
    · have b2 : (endRS s2 != 0) = true := by simpa using he
      rw [if_neg he] at Hp
      clear he
      go_wp2
      refine bodyPost_ret (v := .tuple #[.agg #[.int .u8 0, .int .u8 0, .int .u8 0, .int .u8 0, .int .u8 0, .int .u8 0, .int .u8 0, .int .u8 0], .int .i64 0, .int .i64 (endRS s2)]) (by simp [results, Tryz.results23, go_sem, k0, k1, k2, k3, k4, k5, k6, k7]) rfl ⟨by rw [Hp.out]; rfl, ?_⟩
      exact (((((((((below_drewN Hb4.out k)).setCell (by simp) _).setCell (by simp) _).setCell (by simp) _).setCell (by simp) _).setCell (by simp) _).setCell (by simp) _).setCell (by simp) _).setCell (by simp) _
  · have b1 : (t.ki != 0) = true := by simpa using hk
    have Hp : Hid (paidT t.ki t.bo = (d0, 0, 11)) := by show _ = _; unfold paidT; rw [if_neg hk]
    clear hk
    go_enter Tryz.func23, Tryz.ntmps23
    go_wp2
    refine bodyPost_ret (v := .tuple #[.agg #[.int .u8 0, .int .u8 0, .int .u8 0, .int .u8 0, .int .u8 0, .int .u8 0, .int .u8 0, .int .u8 0], .int .i64 0, .int .i64 11]) (by simp [results, Tryz.results23, go_sem]) rfl ⟨by rw [Hp.out]; rfl, ?_⟩
    exact below_two _ _ _
end Go.Proofs.YthjpaclcoipocaaGreat
namespace Go.Proofs.YthjpaclcoipocaaGreat
open Go.RowKit Go.Lib


def inT (no fe ki n n' : Int) : Bool := upB no 1099511627776 && upB fe 1125899906842624 && upB ki 2 && upB n 32768 && upB n' 1024
def checkT (no fe ki : Int) (bo si : List Nat) : Int := if inT no fe ki bo.length si.length then (if ki = 0 then (paidT ki bo).2.2 else 0) else 2
theorem check_out {no fe ki : Int} {bo si : List Nat} (h : inT no fe ki bo.length si.length = false) : checkT no fe ki bo si = 2 := by simp [checkT, h]
set_option maxRecDepth 100000 in
set_option maxHeartbeats 1000000 in
theorem tcheck_any (t : TxV) (w : World) (h : t.At w) : Calls Tryz.prog 12 #[.agg #[.int .u8 (t.d.x0 : Int), .int .u8 (t.d.x1 : Int), .int .u8 (t.d.x2 : Int), .int .u8 (t.d.x3 : Int), .int .u8 (t.d.x4 : Int), .int .u8 (t.d.x5 : Int), .int .u8 (t.d.x6 : Int), .int .u8 (t.d.x7 : Int), .int .i64 t.no, .int .i64 t.fe, .int .i64 t.ki, .slice t.A t.n t.c, .slice t.A' t.n' t.c']] w fun e w' => e = .returned (.int .i64 (checkT t.no t.fe t.ki t.bo t.si)) ∧ Below w.heap.size w w' := by
  have H := Lib.hid h
  clear h
  by_cases q1 : upB t.no 1099511627776 = false
  ·
    have Hr : Hid (checkT t.no t.fe t.ki t.bo t.si = 2) := check_out (by unfold inT; rw [H.out.len1, H.out.len2]; simp [*])
    go_enter Tryz.func12, Tryz.ntmps12
    go_wp2_with (go_at_call 22; refine (upTo_any _ _ _).mono ?_; rintro e w' ⟨rfl, rfl⟩)
    go_ret
    exact ⟨by rw [Hr.out]; rfl, below_one _ _⟩
  replace q1 : upB t.no 1099511627776 = true := by simpa using q1
  by_cases q2 : upB t.fe 1125899906842624 = false
  ·
    have Hr : Hid (checkT t.no t.fe t.ki t.bo t.si = 2) := check_out (by unfold inT; rw [H.out.len1, H.out.len2]; simp [*])
    go_enter Tryz.func12, Tryz.ntmps12
    go_wp2_with (go_at_call 22; refine (upTo_any _ _ _).mono ?_; rintro e w' ⟨rfl, rfl⟩)
    go_ret
    exact ⟨by rw [Hr.out]; rfl, below_one _ _⟩
  replace q2 : upB t.fe 1125899906842624 = true := by simpa using q2
  by_cases q3 : upB t.ki 2 = false
  ·
    have Hr : Hid (checkT t.no t.fe t.ki t.bo t.si = 2) := check_out (by unfold inT; rw [H.out.len1, H.out.len2]; simp [*])
    go_enter Tryz.func12, Tryz.ntmps12
    go_wp2_with (go_at_call 22; refine (upTo_any _ _ _).mono ?_; rintro e w' ⟨rfl, rfl⟩)
    go_ret
    exact ⟨by rw [Hr.out]; rfl, below_one _ _⟩
  replace q3 : upB t.ki 2 = true := by simpa using q3
  by_cases q4 : upB (t.n : Int) 32768 = false
  ·
    have Hr : Hid (checkT t.no t.fe t.ki t.bo t.si = 2) := check_out (by unfold inT; rw [H.out.len1, H.out.len2]; simp [*])
    go_enter Tryz.func12, Tryz.ntmps12
    go_wp2_with (go_at_call 22; refine (upTo_any _ _ _).mono ?_; rintro e w' ⟨rfl, rfl⟩)
    go_ret
    exact ⟨by rw [Hr.out]; rfl, below_one _ _⟩
  replace q4 : upB (t.n : Int) 32768 = true := by simpa using q4
  by_cases q5 : upB (t.n' : Int) 1024 = false
  ·
    have Hr : Hid (checkT t.no t.fe t.ki t.bo t.si = 2) := check_out (by unfold inT; rw [H.out.len1, H.out.len2]; simp [*])
    go_enter Tryz.func12, Tryz.ntmps12
    go_wp2_with (go_at_call 22; refine (upTo_any _ _ _).mono ?_; rintro e w' ⟨rfl, rfl⟩)
    go_ret
    exact ⟨by rw [Hr.out]; rfl, below_one _ _⟩
  replace q5 : upB (t.n' : Int) 1024 = true := by simpa using q5
  have hin : inT t.no t.fe t.ki t.bo.length t.si.length = true := by unfold inT; rw [H.out.len1, H.out.len2]; simp [*]
  by_cases hk : t.ki = 0
  · have Hr : Hid (checkT t.no t.fe t.ki t.bo t.si = (paidT t.ki t.bo).2.2) := by show _ = _; unfold checkT; rw [hin, if_pos rfl, if_pos hk]
    have b1 : (t.ki == 0) = true := by simpa using hk
    clear hk hin
    go_enter Tryz.func12, Tryz.ntmps12
    go_wp2_with (first
      | (go_at_call 22; refine (upTo_any _ _ _).mono ?_; rintro e w' ⟨rfl, rfl⟩)
      | (go_at_call 23; refine (paid_any t _ (H.out.up (below_one _ _))).mono ?_; rintro e w1 ⟨rfl, hb1⟩; have Hb1 := Lib.hid hb1; clear hb1))
    go_ret
    exact ⟨by rw [Hr.out]; rfl, ((below_one w _).trans (Hb1.out.mono (by simp))).alloc (by have := Hb1.out.size; simp at this; omega) _⟩
  · have Hr : Hid (checkT t.no t.fe t.ki t.bo t.si = 0) := by show _ = _; unfold checkT; rw [hin, if_pos rfl, if_neg hk]
    have b1 : (t.ki == 0) = false := by simpa using hk
    clear hk hin
    go_enter Tryz.func12, Tryz.ntmps12
    go_wp2_with (go_at_call 22; refine (upTo_any _ _ _).mono ?_; rintro e w' ⟨rfl, rfl⟩)
    go_ret
    exact ⟨by rw [Hr.out]; rfl, below_one _ _⟩
theorem putNum_at (A : Option Addr) (n c : Nat) (m : Int) (l : List Nat) (w : World) (hr : Rd w w.heap.size 1 A n (bv l)) (hn : n ≤ 900000000) (hm : 0 ≤ m) (hm2 : m < 18446744073709551616) :
    Calls Tryz.prog 28 #[.slice A n c, .int .u64 m] w (GivesB w (l ++ encN m.toNat)) := by
  obtain ⟨k, rfl⟩ := Int.eq_ofNat_of_zero_le hm
  exact putNum_any A n c k l w hr hn (by omega)
theorem wrapU (x : Int) : 0 ≤ IntKind.u64.wrap x ∧ IntKind.u64.wrap x < 18446744073709551616 := by rw [IntKind.wrap_u64]; omega
def u64N (x : Int) : Nat := (IntKind.u64.wrap x).toNat
theorem u64N_in {x : Int} (h : 0 ≤ x) (h2 : x < 18446744073709551616) : u64N x = x.toNat := by unfold u64N; rw [IntKind.wrap_u64]; omega
/-- The bytes up to the signature's; all bytes. -/
def headT (d : D8) (no fe ki : Int) (bo : List Nat) : List Nat := encN (u64N ki) ++ encN d.num ++ encN (u64N no) ++ encN (u64N fe) ++ encB bo
def bytesT (d : D8) (no fe ki : Int) (bo si : List Nat) : List Nat := headT d no fe ki bo ++ encB si
theorem encB_len (l : List Nat) : (encB l).length ≤ 11 + l.length := by unfold encB; rw [List.length_append]; have := encN_len l.length; omega
theorem headT_len (d : D8) (no fe ki : Int) (bo : List Nat) : (headT d no fe ki bo).length ≤ 55 + bo.length := by
  unfold headT
  simp only [List.length_append]
  have := encN_len (u64N ki); have := encN_len d.num; have := encN_len (u64N no); have := encN_len (u64N fe); have := encB_len bo
  omega
theorem GivesB.rd {w w' : World} {l : List Nat} {A : Option Addr} {n c : Nat} (h : w'.ownsRow w.heap.size 5 1 (.slice A n c) n (bv l)) : Rd w' w'.heap.size 1 A n (bv l) := Rd.of_own h
/-- The transaction's box. -/
def Box (t : TxV) (w : World) (b : Nat) : Prop := w.heap[b]? = some (.cells #[.int .u8 (t.d.x0 : Int), .int .u8 (t.d.x1 : Int), .int .u8 (t.d.x2 : Int), .int .u8 (t.d.x3 : Int), .int .u8 (t.d.x4 : Int), .int .u8 (t.d.x5 : Int), .int .u8 (t.d.x6 : Int), .int .u8 (t.d.x7 : Int), .int .i64 t.no, .int .i64 t.fe, .int .i64 t.ki, .slice t.A t.n t.c, .slice t.A' t.n' t.c'] 32 (0, 0))
theorem Box.all {t : TxV} {w : World} {b : Nat} (h : Box t w b) :
    w.cell? ⟨b, 0, none⟩ = some (.int .u8 (t.d.x0 : Int)) ∧ w.cell? ⟨b, 1, none⟩ = some (.int .u8 (t.d.x1 : Int)) ∧ w.cell? ⟨b, 2, none⟩ = some (.int .u8 (t.d.x2 : Int)) ∧ w.cell? ⟨b, 3, none⟩ = some (.int .u8 (t.d.x3 : Int)) ∧
    w.cell? ⟨b, 4, none⟩ = some (.int .u8 (t.d.x4 : Int)) ∧ w.cell? ⟨b, 5, none⟩ = some (.int .u8 (t.d.x5 : Int)) ∧ w.cell? ⟨b, 6, none⟩ = some (.int .u8 (t.d.x6 : Int)) ∧ w.cell? ⟨b, 7, none⟩ = some (.int .u8 (t.d.x7 : Int)) ∧
    w.cell? ⟨b, 8, none⟩ = some (.int .i64 t.no) ∧ w.cell? ⟨b, 9, none⟩ = some (.int .i64 t.fe) ∧ w.cell? ⟨b, 10, none⟩ = some (.int .i64 t.ki) ∧ w.cell? ⟨b, 11, none⟩ = some (.slice t.A t.n t.c) ∧ w.cell? ⟨b, 12, none⟩ = some (.slice t.A' t.n' t.c') :=
  ⟨block_cell h 0, block_cell h 1, block_cell h 2, block_cell h 3, block_cell h 4, block_cell h 5, block_cell h 6, block_cell h 7, block_cell h 8, block_cell h 9, block_cell h 10, block_cell h 11, block_cell h 12⟩
theorem Box.below {t : TxV} {w w' : World} {b : Nat} (h : Box t w b) (hb : Below w.heap.size w w') : Box t w' b := block_below h hb (block_lt h)
theorem Box.new (t : TxV) (w : World) : Box t (w.alloc (.cells #[.int .u8 (t.d.x0 : Int), .int .u8 (t.d.x1 : Int), .int .u8 (t.d.x2 : Int), .int .u8 (t.d.x3 : Int), .int .u8 (t.d.x4 : Int), .int .u8 (t.d.x5 : Int), .int .u8 (t.d.x6 : Int), .int .u8 (t.d.x7 : Int), .int .i64 t.no, .int .i64 t.fe, .int .i64 t.ki, .slice t.A t.n t.c, .slice t.A' t.n' t.c'] 32)) w.heap.size := heap_alloc_new w _
set_option maxRecDepth 100000 in
set_option maxHeartbeats 2000000 in
theorem unsigned_any (t : TxV) (w : World) (h : t.At w) : Calls Tryz.prog 26 #[.agg #[.int .u8 (t.d.x0 : Int), .int .u8 (t.d.x1 : Int), .int .u8 (t.d.x2 : Int), .int .u8 (t.d.x3 : Int), .int .u8 (t.d.x4 : Int), .int .u8 (t.d.x5 : Int), .int .u8 (t.d.x6 : Int), .int .u8 (t.d.x7 : Int), .int .i64 t.no, .int .i64 t.fe, .int .i64 t.ki, .slice t.A t.n t.c, .slice t.A' t.n' t.c']] w (GivesB w (headT t.d t.no t.fe t.ki t.bo)) := by
  have H := Lib.hid (h.up (below_one w (.cells #[.int .u8 (t.d.x0 : Int), .int .u8 (t.d.x1 : Int), .int .u8 (t.d.x2 : Int), .int .u8 (t.d.x3 : Int), .int .u8 (t.d.x4 : Int), .int .u8 (t.d.x5 : Int), .int .u8 (t.d.x6 : Int), .int .u8 (t.d.x7 : Int), .int .i64 t.no, .int .i64 t.fe, .int .i64 t.ki, .slice t.A t.n t.c, .slice t.A' t.n' t.c'] 32)))
  have HB := Lib.hid (Box.new t w)
  have Hd := Lib.hid h.ok
  have Hm := Lib.hid h.m1
  clear h
  go_enter Tryz.func26, Tryz.ntmps26
  go_wp2_with fail
  refine (putNum_at none 0 0 _ [] _ Rd.empty (by omega) (wrapU _).1 (wrapU _).2).mono ?_
  rintro e w1 ⟨A1, n1, c1, rfl, ho1, hn1, hb1⟩
  have HB1 := Lib.hid (HB.out.below hb1)
  have H1 := Lib.hid (H.out.up hb1)
  have Hw1 := Lib.hid ((below_one w _).trans (hb1.mono (by simp)))
  have Hr1 := Lib.hid (Rd.of_own ho1)
  have hl1 : n1 ≤ 11 := by rw [hn1]; exact encN_len _
  clear hb1 ho1 hn1
  obtain ⟨y0, y1, y2, y3, y4, y5, y6, y7, y8, y9, y10, y11, y12⟩ := HB1.out.all
  go_wp2_with fail
  refine (hnum_any t.d _ Hd.out).mono ?_
  rintro e w2 ⟨rfl, hb2⟩
  have HB2 := Lib.hid (HB1.out.below hb2)
  have H2 := Lib.hid (H1.out.up hb2)
  have Hw2 := Lib.hid (Hw1.out.trans (hb2.mono Hw1.out.size))
  have Hr2 := Lib.hid (Hr1.out.up hb2 (Nat.le_refl _))
  clear hb2 y0 y1 y2 y3 y4 y5 y6 y7 y8 y9 y10 y11 y12
  go_wp2_with fail
  refine (putNum_at A1 n1 c1 _ _ _ Hr2.out (by omega) (by omega) (by have := D8.num_lt Hd.out; omega)).mono ?_
  rintro e w3 ⟨A3, n3, c3, rfl, ho3, hn3, hb3⟩
  have HB3 := Lib.hid (HB2.out.below hb3)
  have H3 := Lib.hid (H2.out.up hb3)
  have Hw3 := Lib.hid (Hw2.out.trans (hb3.mono Hw2.out.size))
  have Hr3 := Lib.hid (Rd.of_own ho3)
  rw [Int.toNat_natCast] at Hr3 hn3
  have hl3 : n3 ≤ 22 := by rw [hn3, List.length_append]; have := encN_len t.d.num; have := encN_len (u64N t.ki); have h5 := Hr1.out.blen; rw [h5]; omega
  clear hb3 ho3 hn3
  obtain ⟨y0, y1, y2, y3, y4, y5, y6, y7, y8, y9, y10, y11, y12⟩ := HB3.out.all
  go_wp2_with fail
  refine (putNum_at A3 n3 c3 _ _ _ Hr3.out (by omega) (wrapU _).1 (wrapU _).2).mono ?_
  rintro e w4 ⟨A4, n4, c4, rfl, ho4, hn4, hb4⟩
  have HB4 := Lib.hid (HB3.out.below hb4)
  have H4 := Lib.hid (H3.out.up hb4)
  have Hw4 := Lib.hid (Hw3.out.trans (hb4.mono Hw3.out.size))
  have Hr4 := Lib.hid (Rd.of_own ho4)
  have hl4 : n4 ≤ 33 := by rw [hn4, List.length_append]; have := encN_len (IntKind.u64.wrap t.no).toNat; have h5 := Hr3.out.blen; rw [h5]; omega
  clear hb4 ho4 hn4 y0 y1 y2 y3 y4 y5 y6 y7 y8 y9 y10 y11 y12
  obtain ⟨y0, y1, y2, y3, y4, y5, y6, y7, y8, y9, y10, y11, y12⟩ := HB4.out.all
  go_wp2_with fail
  refine (putNum_at A4 n4 c4 _ _ _ Hr4.out (by omega) (wrapU _).1 (wrapU _).2).mono ?_
  rintro e w5 ⟨A5, n5, c5, rfl, ho5, hn5, hb5⟩
  have HB5 := Lib.hid (HB4.out.below hb5)
  have H5 := Lib.hid (H4.out.up hb5)
  have Hw5 := Lib.hid (Hw4.out.trans (hb5.mono Hw4.out.size))
  have Hr5 := Lib.hid (Rd.of_own ho5)
  have hl5 : n5 ≤ 44 := by rw [hn5, List.length_append]; have := encN_len (IntKind.u64.wrap t.fe).toNat; have h5 := Hr4.out.blen; rw [h5]; omega
  clear hb5 ho5 hn5 y0 y1 y2 y3 y4 y5 y6 y7 y8 y9 y10 y11 y12
  obtain ⟨y0, y1, y2, y3, y4, y5, y6, y7, y8, y9, y10, y11, y12⟩ := HB5.out.all
  go_wp2_with fail
  refine (putBytes_any A5 t.A n5 c5 t.n t.c _ _ _ Hr5.out (by omega) H5.out.r1 (by have := Hm.out; omega)).mono ?_
  rintro e w6 ⟨A6, n6, c6, rfl, ho6, hn6, hb6⟩
  have Ho6 := Lib.hid (own_down ho6 Hw5.out.size)
  have Hn6 := Lib.hid hn6
  have Hw6 := Lib.hid (Hw5.out.trans (hb6.mono Hw5.out.size))
  clear ho6 hn6 hb6
  go_wp2
  go_ret
  exact ⟨A6, n6, c6, rfl, by simpa [headT, u64N] using Ho6.out, by simpa [headT, u64N] using Hn6.out, Hw6.out⟩
def headT_ok (t : TxV) : Prop := t.n ≤ 100000000 ∧ t.n' ≤ 100000000 ∧ t.bo.length = t.n
theorem headT_ok.le {t : TxV} (h : headT_ok t) : (headT t.d t.no t.fe t.ki t.bo).length ≤ 200000000 := by
  have := headT_len t.d t.no t.fe t.ki t.bo
  have := h.1
  have := h.2.2
  omega
set_option maxRecDepth 100000 in
set_option maxHeartbeats 2000000 in
theorem tbytes_any (t : TxV) (w : World) (h : t.At w) : Calls Tryz.prog 27 #[.agg #[.int .u8 (t.d.x0 : Int), .int .u8 (t.d.x1 : Int), .int .u8 (t.d.x2 : Int), .int .u8 (t.d.x3 : Int), .int .u8 (t.d.x4 : Int), .int .u8 (t.d.x5 : Int), .int .u8 (t.d.x6 : Int), .int .u8 (t.d.x7 : Int), .int .i64 t.no, .int .i64 t.fe, .int .i64 t.ki, .slice t.A t.n t.c, .slice t.A' t.n' t.c']] w (GivesB w (bytesT t.d t.no t.fe t.ki t.bo t.si)) := by
  have H := Lib.hid (h.up (below_one w (.cells #[.int .u8 (t.d.x0 : Int), .int .u8 (t.d.x1 : Int), .int .u8 (t.d.x2 : Int), .int .u8 (t.d.x3 : Int), .int .u8 (t.d.x4 : Int), .int .u8 (t.d.x5 : Int), .int .u8 (t.d.x6 : Int), .int .u8 (t.d.x7 : Int), .int .i64 t.no, .int .i64 t.fe, .int .i64 t.ki, .slice t.A t.n t.c, .slice t.A' t.n' t.c'] 32)))
  have HB := Lib.hid (Box.new t w)
  have Hm := Lib.hid (show headT_ok t from ⟨h.m1, h.m2, h.len1⟩)
  clear h
  go_enter Tryz.func27, Tryz.ntmps27
  go_wp2
  go_region_held3 (fun w' => w'.cell? ⟨w.heap.size, 0, none⟩ = some (.int .u8 (t.d.x0 : Int)) ∧ w'.cell? ⟨w.heap.size, 1, none⟩ = some (.int .u8 (t.d.x1 : Int)) ∧ w'.cell? ⟨w.heap.size, 2, none⟩ = some (.int .u8 (t.d.x2 : Int)) ∧ w'.cell? ⟨w.heap.size, 3, none⟩ = some (.int .u8 (t.d.x3 : Int)) ∧ w'.cell? ⟨w.heap.size, 4, none⟩ = some (.int .u8 (t.d.x4 : Int)) ∧ w'.cell? ⟨w.heap.size, 5, none⟩ = some (.int .u8 (t.d.x5 : Int)) ∧ w'.cell? ⟨w.heap.size, 6, none⟩ = some (.int .u8 (t.d.x6 : Int)) ∧ w'.cell? ⟨w.heap.size, 7, none⟩ = some (.int .u8 (t.d.x7 : Int)) ∧ w'.cell? ⟨w.heap.size, 8, none⟩ = some (.int .i64 t.no) ∧ w'.cell? ⟨w.heap.size, 9, none⟩ = some (.int .i64 t.fe) ∧ w'.cell? ⟨w.heap.size, 10, none⟩ = some (.int .i64 t.ki) ∧ w'.cell? ⟨w.heap.size, 11, none⟩ = some (.slice t.A t.n t.c) ∧ w'.cell? ⟨w.heap.size, 12, none⟩ = some (.slice t.A' t.n' t.c')) (first | exact HB.out.all | exact HB1.out.all | exact HB2.out.all | go_keep)
    (first
      | (go_at_call 26; refine (unsigned_any t _ (H.out.up (Below.refl _ _).drew)).mono ?_; rintro e w1 ⟨A1, n1, c1, rfl, ho1, hn1, hb1⟩; have HB1 := Lib.hid (Box.below (w := (w.alloc (.cells #[.int .u8 (t.d.x0 : Int), .int .u8 (t.d.x1 : Int), .int .u8 (t.d.x2 : Int), .int .u8 (t.d.x3 : Int), .int .u8 (t.d.x4 : Int), .int .u8 (t.d.x5 : Int), .int .u8 (t.d.x6 : Int), .int .u8 (t.d.x7 : Int), .int .i64 t.no, .int .i64 t.fe, .int .i64 t.ki, .slice t.A t.n t.c, .slice t.A' t.n' t.c'] 32)).drew) HB.out hb1); have H1 := Lib.hid ((H.out.up (Below.refl _ _).drew).up hb1); have Hw1 := Lib.hid ((below_one w _).drew.trans (hb1.mono (by simp))); have Hr1 := Lib.hid (Rd.of_own ho1); have hl1 : n1 ≤ 200000000 := (hn1 ▸ Hm.out.le); clear hb1 ho1 hn1)
      | (go_at_call 47; refine (putBytes_any A1 t.A' n1 c1 t.n' t.c' _ _ _ Hr1.out (by omega) H1.out.r2 (by have := Hm.out.2.1; omega)).mono ?_; rintro e w2 ⟨A2, n2, c2, rfl, ho2, hn2, hb2⟩; have HB2 := Lib.hid (Box.below HB1.out hb2); have Hw2 := Lib.hid (Hw1.out.trans (hb2.mono Hw1.out.size)); have Ho2 := Lib.hid (own_down ho2 Hw1.out.size); have Hn2 := Lib.hid hn2; clear hb2 ho2 hn2))
  all_goals
    go_wp2
    go_ret
    exact ⟨A2, n2, c2, rfl, Ho2.out, Hn2.out, Hw2.out⟩
end Go.Proofs.YthjpaclcoipocaaGreat
namespace Go.Proofs.YthjpaclcoipocaaGreat
open Go.RowKit Go.Lib


def encT (no fe ki : Int) (d : D8) (bo si : List Nat) : List Nat := if checkT no fe ki bo si = 0 then bytesT d no fe ki bo si else []
/-- Bytes handed back, and an error. -/
def GivesE (w : World) (l : List Nat) (err : Int) (e : Ending) (w' : World) : Prop :=
  ∃ A n c, e = .returned (.tuple #[.slice A n c, .int .i64 err]) ∧ Rd w' w'.heap.size 1 A n (bv l) ∧ n = l.length ∧ n ≤ c ∧ Below w.heap.size w w'
set_option maxRecDepth 100000 in
set_option maxHeartbeats 2000000 in
theorem encode_any (t : TxV) (w : World) (h : t.At w) : Calls Tryz.prog 15 #[.agg #[.int .u8 (t.d.x0 : Int), .int .u8 (t.d.x1 : Int), .int .u8 (t.d.x2 : Int), .int .u8 (t.d.x3 : Int), .int .u8 (t.d.x4 : Int), .int .u8 (t.d.x5 : Int), .int .u8 (t.d.x6 : Int), .int .u8 (t.d.x7 : Int), .int .i64 t.no, .int .i64 t.fe, .int .i64 t.ki, .slice t.A t.n t.c, .slice t.A' t.n' t.c']] w (GivesE w (encT t.no t.fe t.ki t.d t.bo t.si) (checkT t.no t.fe t.ki t.bo t.si)) := by
  have H := Lib.hid (h.up (below_one w (.cells #[.int .u8 (t.d.x0 : Int), .int .u8 (t.d.x1 : Int), .int .u8 (t.d.x2 : Int), .int .u8 (t.d.x3 : Int), .int .u8 (t.d.x4 : Int), .int .u8 (t.d.x5 : Int), .int .u8 (t.d.x6 : Int), .int .u8 (t.d.x7 : Int), .int .i64 t.no, .int .i64 t.fe, .int .i64 t.ki, .slice t.A t.n t.c, .slice t.A' t.n' t.c'] 32)))
  have HB := Lib.hid (Box.new t w)
  clear h
  by_cases hc : checkT t.no t.fe t.ki t.bo t.si = 0
  · have b1 : (checkT t.no t.fe t.ki t.bo t.si != 0) = false := by simpa using hc
    have He : Hid (encT t.no t.fe t.ki t.d t.bo t.si = bytesT t.d t.no t.fe t.ki t.bo t.si) := by show _ = _; unfold encT; rw [if_pos hc]
    have Hc := Lib.hid hc
    clear hc
    go_enter Tryz.func15, Tryz.ntmps15
    go_wp2_with fail
    refine (tcheck_any t _ H.out).mono ?_
    rintro e w1 ⟨rfl, hb1⟩
    have HB1 := Lib.hid (HB.out.below hb1)
    have H1 := Lib.hid (H.out.up hb1)
    have Hw1 := Lib.hid ((below_one w _).trans (hb1.mono (by simp)))
    clear hb1
    obtain ⟨y0, y1, y2, y3, y4, y5, y6, y7, y8, y9, y10, y11, y12⟩ := HB1.out.all
    go_wp2_with fail
    refine (tbytes_any t _ H1.out).mono ?_
    rintro e w2 ⟨A2, n2, c2, rfl, ho2, hn2, hb2⟩
    have Ho2 := Lib.hid ho2
    have Hn2 := Lib.hid hn2
    have Hw2 := Lib.hid (Hw1.out.trans (hb2.mono Hw1.out.size))
    clear ho2 hn2 hb2
    go_wp2
    go_ret2
    exact ⟨A2, n2, c2, by rw [Hc.out]; rfl, by rw [He.out]; exact Rd.of_own Ho2.out, by rw [He.out]; exact Hn2.out, own_cap Ho2.out, Hw2.out⟩
  · have b1 : (checkT t.no t.fe t.ki t.bo t.si != 0) = true := by simpa using hc
    have He : Hid (encT t.no t.fe t.ki t.d t.bo t.si = []) := by show _ = _; unfold encT; rw [if_neg hc]
    clear hc
    go_enter Tryz.func15, Tryz.ntmps15
    go_wp2_with fail
    refine (tcheck_any t _ H.out).mono ?_
    rintro e w1 ⟨rfl, hb1⟩
    have Hw1 := Lib.hid ((below_one w _).trans (hb1.mono (by simp)))
    clear hb1
    go_wp2
    go_ret2
    exact ⟨none, 0, 0, rfl, by rw [He.out]; exact Rd.empty, by rw [He.out]; rfl, by omega, Hw1.out⟩
def payL (d : D8) (am : Int) : List Nat := encN d.num ++ encN (u64N am)
theorem payL_len (d : D8) (am : Int) : (payL d am).length ≤ 22 := by unfold payL; rw [List.length_append]; have := encN_len d.num; have := encN_len (u64N am); omega
set_option maxRecDepth 100000 in
set_option maxHeartbeats 2000000 in
theorem payTo_any (d : D8) (am : Int) (w : World) (h : d.ok) : Calls Tryz.prog 17 #[.agg #[.int .u8 (d.x0 : Int), .int .u8 (d.x1 : Int), .int .u8 (d.x2 : Int), .int .u8 (d.x3 : Int), .int .u8 (d.x4 : Int), .int .u8 (d.x5 : Int), .int .u8 (d.x6 : Int), .int .u8 (d.x7 : Int)], .int .i64 am] w (GivesB w (payL d am)) := by
  have H := Lib.hid h
  clear h
  go_enter Tryz.func17, Tryz.ntmps17
  go_wp2_with fail
  refine (hnum_any d _ H.out).mono ?_
  rintro e w2 ⟨rfl, hb2⟩
  have Hw2 := Lib.hid ((below_one w _).trans (hb2.mono (by simp)))
  clear hb2
  go_wp2_with fail
  refine (putNum_at none 0 0 _ [] _ Rd.empty (by omega) (by omega) (by have := D8.num_lt H.out; omega)).mono ?_
  rintro e w3 ⟨A3, n3, c3, rfl, ho3, hn3, hb3⟩
  have Hw3 := Lib.hid (Hw2.out.trans (hb3.mono Hw2.out.size))
  have Hr3 := Lib.hid (Rd.of_own ho3)
  rw [Int.toNat_natCast] at Hr3 hn3
  have hl3 : n3 ≤ 11 := by rw [hn3]; exact encN_len d.num
  clear hb3 ho3 hn3
  go_wp2_with fail
  refine (putNum_at A3 n3 c3 _ _ _ Hr3.out (by omega) (wrapU _).1 (wrapU _).2).mono ?_
  rintro e w4 ⟨A4, n4, c4, rfl, ho4, hn4, hb4⟩
  have Hw4 := Lib.hid (Hw3.out.trans (hb4.mono Hw3.out.size))
  have Ho4 := Lib.hid (own_down ho4 Hw3.out.size)
  have Hn4 := Lib.hid hn4
  clear hb4 ho4 hn4
  go_wp2
  go_ret
  exact ⟨A4, n4, c4, rfl, by simpa [payL, u64N] using Ho4.out, by simpa [payL, u64N] using Hn4.out, Hw4.out⟩
def kd : D8 := ⟨5, 0, 0, 0, 0, 0, 0, 0⟩
theorem known_chk : checkT 1 2 2 [7] [9] = 0 := by decide +kernel
theorem known_enc : encT 1 2 2 kd [7] [9] = [2, 5, 1, 2, 1, 7, 1, 9] := by decide +kernel
theorem known_pay : payL kd 300 = [5, 172, 2] := by decide +kernel
set_option maxRecDepth 100000 in
set_option maxHeartbeats 2000000 in
theorem tknown_any (w : World) : Calls Tryz.prog 6 #[] w fun e w' => e = .returned (.bool true) ∧ Below w.heap.size w w' := by
  go_enter Tryz.func6, Tryz.ntmps6
  go_wp2_with fail
  refine (encode_any ⟨kd, 1, 2, 2, some ⟨w.heap.size, 0, none⟩, 1, 1, some ⟨w.heap.size + 1, 0, none⟩, 1, 1, [7], [9]⟩ _ ⟨by unfold D8.ok kd; simp, ?_, ?_, by simp, by simp, by simp, by simp, by simp, by simp⟩).mono ?_
  · exact ((Rd.newA (n := 1) (sz := 1) (xs := bv [7]) w 5 #[.int .u8 7] rfl rfl).alloc (by simp) _).more (by simp)
  · have := Rd.newA (n := 1) (sz := 1) (xs := bv [9]) (w.alloc (.cells #[.int .u8 7] 5)) 5 #[.int .u8 9] rfl rfl
    simpa using this
  rintro e w1 ⟨A1, n1, c1, rfl, hr1, hn1, hc1, hb1⟩
  simp only [known_chk, known_enc] at hr1 hn1 ⊢
  have Hw1 := Lib.hid ((below_two w _ _).trans (hb1.mono (by simp; omega)))
  have Hr1 := Lib.hid hr1
  have hl1 : n1 ≤ 8 := by rw [hn1]; simp
  clear hb1 hr1 hc1 hn1
  go_wp2_with fail
  refine (payTo_any kd 300 _ (by unfold D8.ok kd; simp)).mono ?_
  rintro e w2 ⟨A2, n2, c2, rfl, ho2, hn2, hb2⟩
  have Hw2 := Lib.hid (Hw1.out.trans (hb2.mono Hw1.out.size))
  have Hr2 := Lib.hid (Rd.of_own ho2)
  have Hr1b := Lib.hid (Hr1.out.up hb2 (Nat.le_refl _))
  rw [known_pay] at Hr2 hn2
  have hl2 : n2 ≤ 3 := by rw [hn2]; simp
  clear ho2 hb2 hn2
  go_wp2_with fail
  refine (samer_any A2 _ n2 c2 _ _ [5, 172, 2] [5, 172, 2] _ ?_ ?_ (by omega) (by omega)).mono ?_
  · exact Hr2.out.up (below_one _ _) (Nat.le_refl _)
  · exact Rd.newA (n := 3) (sz := 1) (xs := bv [5, 172, 2]) w2 5 #[.int .u8 5, .int .u8 172, .int .u8 2] rfl rfl
  rintro e w3 ⟨rfl, hb3⟩
  rw [sameB_yes rfl]
  have Hw3 := Lib.hid (Hw2.out.trans (((below_one w2 _).trans (hb3.mono (by simp))).mono Hw2.out.size))
  have Hr1c := Lib.hid ((Hr1b.out.up (below_one w2 (.cells #[.int .u8 5, .int .u8 172, .int .u8 2] 5)) (Nat.le_refl _)).up hb3 (Nat.le_refl _))
  clear hb3
  go_wp2_with fail
  refine (samer_any A1 _ n1 c1 _ _ [2, 5, 1, 2, 1, 7, 1, 9] [2, 5, 1, 2, 1, 7, 1, 9] _ ?_ ?_ (by omega) (by omega)).mono ?_
  · exact Hr1c.out.up (below_one _ _) (Nat.le_refl _)
  · exact Rd.newA (n := 8) (sz := 1) (xs := bv [2, 5, 1, 2, 1, 7, 1, 9]) w3 5 #[.int .u8 2, .int .u8 5, .int .u8 1, .int .u8 2, .int .u8 1, .int .u8 7, .int .u8 1, .int .u8 9] rfl rfl
  rintro e w4 ⟨rfl, hb4⟩
  rw [sameB_yes rfl]
  have Hw4 := Lib.hid (Hw3.out.trans (((below_one w3 _).trans (hb4.mono (by simp))).mono Hw3.out.size))
  clear hb4
  go_wp2
  go_ret
  exact ⟨rfl, Hw4.out⟩
theorem set13 {w : World} {b : Nat} {t t' : TxV} (h : Box t w b) : Box t' (((((((((((((w.setCell ⟨b, 0, none⟩ (.int .u8 (t'.d.x0 : Int))).setCell ⟨b, 1, none⟩ (.int .u8 (t'.d.x1 : Int))).setCell ⟨b, 2, none⟩ (.int .u8 (t'.d.x2 : Int))).setCell ⟨b, 3, none⟩ (.int .u8 (t'.d.x3 : Int))).setCell ⟨b, 4, none⟩ (.int .u8 (t'.d.x4 : Int))).setCell ⟨b, 5, none⟩ (.int .u8 (t'.d.x5 : Int))).setCell ⟨b, 6, none⟩ (.int .u8 (t'.d.x6 : Int))).setCell ⟨b, 7, none⟩ (.int .u8 (t'.d.x7 : Int))).setCell ⟨b, 8, none⟩ (.int .i64 t'.no)).setCell ⟨b, 9, none⟩ (.int .i64 t'.fe)).setCell ⟨b, 10, none⟩ (.int .i64 t'.ki)).setCell ⟨b, 11, none⟩ (.slice t'.A t'.n t'.c)).setCell ⟨b, 12, none⟩ (.slice t'.A' t'.n' t'.c')) b ∧ w.grownBy (((((((((((((w.setCell ⟨b, 0, none⟩ (.int .u8 (t'.d.x0 : Int))).setCell ⟨b, 1, none⟩ (.int .u8 (t'.d.x1 : Int))).setCell ⟨b, 2, none⟩ (.int .u8 (t'.d.x2 : Int))).setCell ⟨b, 3, none⟩ (.int .u8 (t'.d.x3 : Int))).setCell ⟨b, 4, none⟩ (.int .u8 (t'.d.x4 : Int))).setCell ⟨b, 5, none⟩ (.int .u8 (t'.d.x5 : Int))).setCell ⟨b, 6, none⟩ (.int .u8 (t'.d.x6 : Int))).setCell ⟨b, 7, none⟩ (.int .u8 (t'.d.x7 : Int))).setCell ⟨b, 8, none⟩ (.int .i64 t'.no)).setCell ⟨b, 9, none⟩ (.int .i64 t'.fe)).setCell ⟨b, 10, none⟩ (.int .i64 t'.ki)).setCell ⟨b, 11, none⟩ (.slice t'.A t'.n t'.c)).setCell ⟨b, 12, none⟩ (.slice t'.A' t'.n' t'.c')) (some b) := by
  refine ⟨?_, grown_trans (grown_trans (grown_trans (grown_trans (grown_trans (grown_trans (grown_trans (grown_trans (grown_trans (grown_trans (grown_trans (grown_trans (grown_set _ _ _) (grown_set _ _ _)) (grown_set _ _ _)) (grown_set _ _ _)) (grown_set _ _ _)) (grown_set _ _ _)) (grown_set _ _ _)) (grown_set _ _ _)) (grown_set _ _ _)) (grown_set _ _ _)) (grown_set _ _ _)) (grown_set _ _ _)) (grown_set _ _ _)⟩
  have := Joins.block_setCell (i := 12) (Joins.block_setCell (i := 11) (Joins.block_setCell (i := 10) (Joins.block_setCell (i := 9) (Joins.block_setCell (i := 8) (Joins.block_setCell (i := 7) (Joins.block_setCell (i := 6) (Joins.block_setCell (i := 5) (Joins.block_setCell (i := 4) (Joins.block_setCell (i := 3) (Joins.block_setCell (i := 2) (Joins.block_setCell (i := 1) (Joins.block_setCell (i := 0) h (.int .u8 (t'.d.x0 : Int))) (.int .u8 (t'.d.x1 : Int))) (.int .u8 (t'.d.x2 : Int))) (.int .u8 (t'.d.x3 : Int))) (.int .u8 (t'.d.x4 : Int))) (.int .u8 (t'.d.x5 : Int))) (.int .u8 (t'.d.x6 : Int))) (.int .u8 (t'.d.x7 : Int))) (.int .i64 t'.no)) (.int .i64 t'.fe)) (.int .i64 t'.ki)) (.slice t'.A t'.n t'.c)) (.slice t'.A' t'.n' t'.c')
  unfold Box
  simpa using this
theorem enc7_small256 : ∀ (f n : Nat), n < 128 ^ (f + 1) → ∀ x ∈ enc7 f n, x < 256 := by
  intro f
  induction f with
  | zero => intro n hn x hx; simp [enc7] at hx; simp at hn; omega
  | succ f ih =>
    intro n hn x hx
    by_cases h : n < 128
    · rw [enc7_small h] at hx; simp at hx; omega
    · rw [enc7_big h] at hx
      simp only [List.mem_cons] at hx
      rcases hx with rfl | hx
      · omega
      · exact ih _ (by rw [Nat.pow_succ] at hn; exact Nat.div_lt_of_lt_mul (by rw [Nat.mul_comm]; exact hn)) x hx
theorem encN_small {n : Nat} (h : n < 18446744073709551616) : ∀ x ∈ encN n, x < 256 := enc7_small256 10 n (Nat.lt_of_lt_of_le h (by decide))
theorem bytesT_small {d : D8} {no fe ki : Int} {bo si : List Nat} (hd : d.ok) (hb : ∀ x ∈ bo, x < 256) (hs : ∀ x ∈ si, x < 256) (h1 : bo.length ≤ 100000000) (h2 : si.length ≤ 100000000) : ∀ x ∈ bytesT d no fe ki bo si, x < 256 := by
  intro x hx
  have u1 := wrapU ki; have u2 := wrapU no; have u3 := wrapU fe
  have hn := D8.num_lt hd
  unfold bytesT headT encB at hx
  simp only [List.mem_append] at hx
  rcases hx with ((((hx | hx) | hx) | hx) | hx | hx) | hx | hx
  · exact encN_small (by unfold u64N; omega) x hx
  · exact encN_small hn x hx
  · exact encN_small (by unfold u64N; omega) x hx
  · exact encN_small (by unfold u64N; omega) x hx
  · exact encN_small (by omega) x hx
  · exact hb x hx
  · exact encN_small (by omega) x hx
  · exact hs x hx
end Go.Proofs.YthjpaclcoipocaaGreat
