/- The walk of Cut: a transaction of at most 400 bytes of body, and 1100 of signature. Condition: what is handed in can be read. -/
import Derived.Test.YtebepgoaofhelaaTxC
import Derived.RegionTactic
import Derived.ChangeAlike
namespace Go.Proofs.Ytebepgoaofhelaa
open Go.RowKit Go.Lib


/-- A transaction that came in, as long as it may be; its slices lie below B. -/
structure TxV.In (t : TxV) (w : World) (B : Nat) : Prop where
  ok : t.d.ok
  r1 : Rd w B 1 t.A t.n (bv t.bo)
  r2 : Rd w B 1 t.A' t.n' (bv t.si)
  c1 : t.n ≤ t.c
  c2 : t.n' ≤ t.c'
  b1 : ∀ x ∈ t.bo, x < 256
  b2 : ∀ x ∈ t.si, x < 256
  m1 : t.n ≤ 9223372036854775807
  m2 : t.n' ≤ 9223372036854775807
theorem TxV.In.keep {t : TxV} {w w' : World} {B C : Nat} (h : t.In w B) (hb : Below C w w') (hC : B ≤ C) : t.In w' B :=
  ⟨h.ok, h.r1.below hb hC, h.r2.below hb hC, h.c1, h.c2, h.b1, h.b2, h.m1, h.m2⟩
/-- A transaction whose slices lie below B. -/
structure TxV.AtB (t : TxV) (w : World) (B : Nat) : Prop where
  ok : t.d.ok
  r1 : Rd w B 1 t.A t.n (bv t.bo)
  r2 : Rd w B 1 t.A' t.n' (bv t.si)
  c1 : t.n ≤ t.c
  c2 : t.n' ≤ t.c'
  b1 : ∀ x ∈ t.bo, x < 256
  b2 : ∀ x ∈ t.si, x < 256
  m1 : t.n ≤ 100000000
  m2 : t.n' ≤ 100000000
theorem TxV.AtB.at {t : TxV} {w : World} {B : Nat} (h : t.AtB w B) (hB : B ≤ w.heap.size) : t.At w := ⟨h.ok, h.r1.more hB, h.r2.more hB, h.c1, h.c2, h.b1, h.b2, h.m1, h.m2⟩
theorem TxV.AtB.keep {t : TxV} {w w' : World} {B C : Nat} (h : t.AtB w B) (hb : Below C w w') (hC : B ≤ C) : t.AtB w' B :=
  ⟨h.ok, h.r1.below hb hC, h.r2.below hb hC, h.c1, h.c2, h.b1, h.b2, h.m1, h.m2⟩
theorem TxV.AtB.grown {t : TxV} {w w' : World} {B g : Nat} (h : t.AtB w B) (hg : w.grownBy w' (some g)) (hB : B ≤ w.heap.size) (hC : B ≤ g) : t.AtB w' B :=
  ⟨h.ok, h.r1.grown hg hB (fun k hk => by cases hk; exact hC), h.r2.grown hg hB (fun k hk => by cases hk; exact hC), h.c1, h.c2, h.b1, h.b2, h.m1, h.m2⟩
/-- What Cut hands back. -/
def CutOf (t t' : TxV) : Prop := t'.d = t.d ∧ t'.no = t.no ∧ t'.fe = t.fe ∧ t'.ki = t.ki ∧ t'.bo = t.bo.take 400 ∧ t'.si = t.si.take 1100 ∧ t'.n ≤ 400 ∧ t'.n' ≤ 1100
def GivesCut (t : TxV) (w : World) (B : Nat) (e : Ending) (w' : World) : Prop := ∃ t', e = .returned (.agg #[.int .u8 (t'.d.x0 : Int), .int .u8 (t'.d.x1 : Int), .int .u8 (t'.d.x2 : Int), .int .u8 (t'.d.x3 : Int), .int .u8 (t'.d.x4 : Int), .int .u8 (t'.d.x5 : Int), .int .u8 (t'.d.x6 : Int), .int .u8 (t'.d.x7 : Int), .int .i64 t'.no, .int .i64 t'.fe, .int .i64 t'.ki, .slice t'.A t'.n t'.c, .slice t'.A' t'.n' t'.c']) ∧ CutOf t t' ∧ t'.AtB w' B ∧ Below w.heap.size w w'
theorem bv_min {l : List Nat} {n k : Nat} (h : l.length = n) : (bv l).take (min n k) = bv (l.take k) := by
  rw [bv_take]
  rcases Nat.le_total n k with h1 | h1
  · rw [Nat.min_eq_left h1, List.take_of_length_le (by rw [bv_len]; omega), List.take_of_length_le (by rw [bv_len]; omega)]
  · rw [Nat.min_eq_right h1]
set_option maxRecDepth 100000 in
set_option maxHeartbeats 2000000 in
theorem cut_any (t : TxV) (w : World) (B : Nat) (hB : B ≤ w.heap.size) (h : t.In w B) : Calls Try.prog 10 #[.agg #[.int .u8 (t.d.x0 : Int), .int .u8 (t.d.x1 : Int), .int .u8 (t.d.x2 : Int), .int .u8 (t.d.x3 : Int), .int .u8 (t.d.x4 : Int), .int .u8 (t.d.x5 : Int), .int .u8 (t.d.x6 : Int), .int .u8 (t.d.x7 : Int), .int .i64 t.no, .int .i64 t.fe, .int .i64 t.ki, .slice t.A t.n t.c, .slice t.A' t.n' t.c']] w (GivesCut t w B) := by
  obtain ⟨A1, hrun1, hrd1⟩ := slice_to elem_u8 sizeOf_u8 h.r1 h.c1 (m := min t.n 400) (by omega)
  obtain ⟨A2, hrun2, hrd2⟩ := slice_to elem_u8 sizeOf_u8 h.r2 h.c2 (m := min t.n' 1100) (by omega)
  have hr1 : ∀ w', (Instr.sliceAt 24 (.slice t.A t.n t.c) none (some (.int .i64 (min (t.n : Int) 400))) none).run Try.prog w' = .ok (.slice A1 (min t.n 400) t.c) w' := by
    intro w'; have := hrun1 w'; rwa [show ((min t.n 400 : Nat) : Int) = min (t.n : Int) 400 by omega] at this
  have hr2 : ∀ w', (Instr.sliceAt 24 (.slice t.A' t.n' t.c') none (some (.int .i64 (min (t.n' : Int) 1100))) none).run Try.prog w' = .ok (.slice A2 (min t.n' 1100) t.c') w' := by
    intro w'; have := hrun2 w'; rwa [show ((min t.n' 1100 : Nat) : Int) = min (t.n' : Int) 1100 by omega] at this
  clear hrun1 hrun2
  rw [Nat.mul_one, bv_min h.r1.blen] at hrd1
  rw [Nat.mul_one, bv_min h.r2.blen] at hrd2
  have H := Lib.hid h
  have Hrd1 := Lib.hid hrd1
  have Hrd2 := Lib.hid hrd2
  have HB := Lib.hid (Box.new t w)
  clear h hrd1 hrd2
  obtain ⟨y0, y1, y2, y3, y4, y5, y6, y7, y8, y9, y10, y11, y12⟩ := HB.out.all
  go_enter Try.func10, Try.ntmps10
  go_wp2
  go_region
  all_goals
    go_wp2
    refine bodyPost_ret (v := .agg #[.int .u8 (t.d.x0 : Int), .int .u8 (t.d.x1 : Int), .int .u8 (t.d.x2 : Int), .int .u8 (t.d.x3 : Int), .int .u8 (t.d.x4 : Int), .int .u8 (t.d.x5 : Int), .int .u8 (t.d.x6 : Int), .int .u8 (t.d.x7 : Int), .int .i64 t.no, .int .i64 t.fe, .int .i64 t.ki, .slice A1 (min t.n 400) t.c, .slice A2 (min t.n' 1100) t.c']) (by simp [results, Try.results10, go_sem]) rfl
      ⟨⟨t.d, t.no, t.fe, t.ki, A1, min t.n 400, t.c, A2, min t.n' 1100, t.c', t.bo.take 400, t.si.take 1100⟩, rfl, ⟨rfl, rfl, rfl, rfl, rfl, rfl, Nat.min_le_right _ _, Nat.min_le_right _ _⟩, ?_, (below_two _ _ _).drew⟩
    have h := H.out
    exact ⟨h.ok, Hrd1.out.below (below_two _ _ _).drew hB, Hrd2.out.below (below_two _ _ _).drew hB, by have := h.c1; simp only; omega, by have := h.c2; simp only; omega, fun x hx => h.b1 x (List.mem_of_mem_take hx), fun x hx => h.b2 x (List.mem_of_mem_take hx), by simp only; omega, by simp only; omega⟩
end Go.Proofs.Ytebepgoaofhelaa
