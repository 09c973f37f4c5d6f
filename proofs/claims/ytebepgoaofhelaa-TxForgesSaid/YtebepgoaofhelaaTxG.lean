/- The walk of Decode of a transaction. Conditions: bounds on how many bytes. -/
import Derived.Test.YtebepgoaofhelaaTxF
import Derived.Test.YtebepgoaofhelaaJoinA
namespace Go.Proofs.Ytebepgoaofhelaa
open Go.RowKit Go.Lib


def dk (b : List Nat) : RS × Nat := numRS ⟨b, 0, 0⟩ 2
def df (b : List Nat) : RS × Nat := numRS (dk b).1 18446744073709551615
def dn (b : List Nat) : RS × Nat := numRS (df b).1 1099511627776
def de (b : List Nat) : RS × Nat := numRS (dn b).1 1125899906842624
def db (b : List Nat) : RS × List Nat := bytesRS (de b).1 32768
def ds (b : List Nat) : RS × List Nat := bytesRS (db b).1 1024
def derr (b : List Nat) : Int := if endRS (ds b).1 = 0 then checkT (dn b).2 (de b).2 (dk b).2 (db b).2 (ds b).2 else endRS (ds b).1
/-- A transaction, plain. -/
structure TxD where
  d : D8
  no : Int
  fe : Int
  ki : Int
  bo : List Nat
  si : List Nat
def tx0 : TxD := ⟨d0, 0, 0, 0, [], []⟩
def TxV.is (t : TxV) (x : TxD) : Prop := t.d = x.d ∧ t.no = x.no ∧ t.fe = x.fe ∧ t.ki = x.ki ∧ t.bo = x.bo ∧ t.si = x.si
def decT (b : List Nat) : TxD := if derr b = 0 then ⟨D8.of (df b).2, (dn b).2, (de b).2, (dk b).2, (db b).2, (ds b).2⟩ else tx0
/-- A transaction handed back, and an error. -/
def GivesTx (w : World) (x : TxD) (err : Int) (e : Ending) (w' : World) : Prop := ∃ t : TxV, e = .returned (.tuple #[.agg #[.int .u8 (t.d.x0 : Int), .int .u8 (t.d.x1 : Int), .int .u8 (t.d.x2 : Int), .int .u8 (t.d.x3 : Int), .int .u8 (t.d.x4 : Int), .int .u8 (t.d.x5 : Int), .int .u8 (t.d.x6 : Int), .int .u8 (t.d.x7 : Int), .int .i64 t.no, .int .i64 t.fe, .int .i64 t.ki, .slice t.A t.n t.c, .slice t.A' t.n' t.c'], .int .i64 err]) ∧ t.is x ∧ t.At w' ∧ Below w.heap.size w w'
theorem bytesRS_len (s : RS) (m : Nat) : (bytesRS s m).2.length ≤ m := by
  unfold bytesRS
  split
  · simp
  · split
    · simp
    · rename_i h1 h2
      simp only
      unfold takeB at h2 ⊢
      split at h2
      · rename_i h3; simp [h3] at h2
      · split at h2
        · simp at h2
        · split at h2
          · simp at h2
          · rename_i h3 h4 h5
            rw [if_neg h3, if_neg h4, if_neg h5]
            simp only [List.length_take]
            omega
theorem bytesRS_mem (s : RS) (m : Nat) : ∀ x ∈ (bytesRS s m).2, x ∈ s.l := by
  intro x hx
  unfold bytesRS at hx
  split at hx
  · simp at hx
  · split at hx
    · simp at hx
    · simp only at hx
      unfold takeB at hx
      split at hx
      · simp at hx
      · split at hx
        · simp at hx
        · split at hx
          · simp at hx
          · exact List.mem_of_mem_drop (List.mem_of_mem_drop (List.mem_of_mem_take hx))
theorem bytesRS_l (s : RS) (m : Nat) : (bytesRS s m).1.l = s.l := by
  unfold bytesRS
  split
  · rfl
  · split <;> rfl
theorem at0 (w : World) : TxV.At ⟨d0, 0, 0, 0, none, 0, 0, none, 0, 0, [], []⟩ w :=
  ⟨by unfold D8.ok d0; simp, Rd.empty, Rd.empty, by simp, by simp, by simp, by simp, by simp, by simp⟩
set_option maxRecDepth 100000 in
set_option maxHeartbeats 8000000 in
theorem tdecode_any (A : Option Addr) (n c : Nat) (l : List Nat) (w : World) (hr : Rd w w.heap.size 1 A n (bv l)) (hn : n ≤ 100000000) (hb : ∀ x ∈ l, x < 256) :
    Calls Try.prog 23 #[.slice A n c] w (GivesTx w (decT l) (derr l)) := by
  have Hr := Lib.hid hr; have Hb := Lib.hid hb
  clear hr hb
  have HT2 := Lib.hid (heap_alloc_new w (.cells #[.int .u8 0, .int .u8 0, .int .u8 0, .int .u8 0, .int .u8 0, .int .u8 0, .int .u8 0, .int .u8 0, .int .i64 0, .int .i64 0, .int .i64 0, .slice none 0 0, .slice none 0 0] 26))
  go_enter Try.func23, Try.ntmps23
  go_wp2_with fail
  refine (newReader_any A n c l _ (Hr.out.up (below_one _ _) (Nat.le_refl _)) (by omega) Hb.out).mono ?_
  rintro e w0 ⟨b, rfl, hat, hbb, hb0⟩
  simp at hbb
  have H2_0 := Lib.hid (show (w0.alloc (.cells #[.int .u8 0, .int .u8 0, .int .u8 0, .int .u8 0, .int .u8 0, .int .u8 0, .int .u8 0, .int .u8 0, .int .i64 0, .int .i64 0, .int .i64 0, .slice none 0 0, .slice none 0 0] 26)).heap[w.heap.size]? = some (.cells #[.int .u8 0, .int .u8 0, .int .u8 0, .int .u8 0, .int .u8 0, .int .u8 0, .int .u8 0, .int .u8 0, .int .i64 0, .int .i64 0, .int .i64 0, .slice none 0 0, .slice none 0 0] 26 (0, 0)) from block_alloc (block_below HT2.out hb0 (by simp)) _)
  have H5_0 := Lib.hid (heap_alloc_new w0 (.cells #[.int .u8 0, .int .u8 0, .int .u8 0, .int .u8 0, .int .u8 0, .int .u8 0, .int .u8 0, .int .u8 0, .int .i64 0, .int .i64 0, .int .i64 0, .slice none 0 0, .slice none 0 0] 26))
  have hbt := hat.lt
  have At_0 := Lib.hid (hat.below (below_one w0 (.cells #[.int .u8 0, .int .u8 0, .int .u8 0, .int .u8 0, .int .u8 0, .int .u8 0, .int .u8 0, .int .u8 0, .int .i64 0, .int .i64 0, .int .i64 0, .slice none 0 0, .slice none 0 0] 26)) hbt)
  have Hw_0 := Lib.hid (((below_one w _).trans (hb0.mono (by simp))).alloc ((below_one w _).trans (hb0.mono (by simp))).size (.cells #[.int .u8 0, .int .u8 0, .int .u8 0, .int .u8 0, .int .u8 0, .int .u8 0, .int .u8 0, .int .u8 0, .int .i64 0, .int .i64 0, .int .i64 0, .slice none 0 0, .slice none 0 0] 26))
  have hz5 : w.heap.size < w0.heap.size := by have := hb0.size; simp at this; omega
  have Hs_0 : Hid (w0.heap.size < (w0.alloc (.cells #[.int .u8 0, .int .u8 0, .int .u8 0, .int .u8 0, .int .u8 0, .int .u8 0, .int .u8 0, .int .u8 0, .int .i64 0, .int .i64 0, .int .i64 0, .slice none 0 0, .slice none 0 0] 26)).heap.size) := by show _ < _; simp
  clear hat hb0
  have E1 := Lib.hid (show numRS ⟨l, 0, 0⟩ 2 = dk l from rfl)
  have E2 := Lib.hid (show numRS (dk l).1 18446744073709551615 = df l from rfl)
  have E3 := Lib.hid (show numRS (df l).1 1099511627776 = dn l from rfl)
  have E4 := Lib.hid (show numRS (dn l).1 1125899906842624 = de l from rfl)
  have E5 := Lib.hid (show bytesRS (de l).1 32768 = db l from rfl)
  have E6 := Lib.hid (show bytesRS (db l).1 1024 = ds l from rfl)
  have L1 := numRS_le ⟨l, 0, 0⟩ 2; have L2 := numRS_le (dk l).1 18446744073709551615; have L3 := numRS_le (df l).1 1099511627776; have L4 := numRS_le (dn l).1 1125899906842624
  have M5 := Lib.hid (bytesRS_len (de l).1 32768); have M6 := Lib.hid (bytesRS_len (db l).1 1024)
  have N5 : Hid (∀ x ∈ (db l).2, x < 256) := fun x hx => Hb.out x (by
    have h1 := bytesRS_mem (de l).1 32768 x hx
    have e : (de l).1.l = l := by unfold de dn df dk; rw [numRS_l, numRS_l, numRS_l, numRS_l]
    rwa [e] at h1)
  have N6 : Hid (∀ x ∈ (ds l).2, x < 256) := fun x hx => Hb.out x (by
    have h1 := bytesRS_mem (db l).1 1024 x hx
    have e : (db l).1.l = l := by unfold db de dn df dk; rw [bytesRS_l, numRS_l, numRS_l, numRS_l, numRS_l]
    rwa [e] at h1)
  rw [E1.out] at L1; rw [E2.out] at L2; rw [E3.out] at L3; rw [E4.out] at L4; rw [E5.out] at M5; rw [E6.out] at M6
  have Hderr : Hid (derr l = if endRS (ds l).1 = 0 then checkT (dn l).2 (de l).2 (dk l).2 (db l).2 (ds l).2 else endRS (ds l).1) := Lib.hid rfl
  have Hdec : Hid (decT l = if derr l = 0 then ⟨D8.of (df l).2, (dn l).2, (de l).2, (dk l).2, (db l).2, (ds l).2⟩ else tx0) := Lib.hid rfl

  go_wp2_with fail
  generalize (w0.alloc (.cells #[.int .u8 0, .int .u8 0, .int .u8 0, .int .u8 0, .int .u8 0, .int .u8 0, .int .u8 0, .int .u8 0, .int .i64 0, .int .i64 0, .int .i64 0, .slice none 0 0, .slice none 0 0] 26)) = x0 at *
  refine (num_at b _ ⟨l, 0, 0⟩ x0 At_0.out (by omega)).mono ?_
  rintro e u1 ⟨rfl, hat, hg⟩
  rw [show (2 : Int).toNat = 2 from rfl, E1.out] at hat
  rw [show (2 : Int).toNat = 2 from rfl, E1.out]
  have At_a := Lib.hid hat
  have H2_a := Lib.hid ((hg.block w.heap.size (by have := Hs_0.out; omega) (by simp; omega)).trans H2_0.out)
  have H5_a := Lib.hid ((hg.block w0.heap.size Hs_0.out (by simp; omega)).trans H5_0.out)
  have Hw_a := Lib.hid (below_gr Hw_0.out hg (by omega))
  have Hs_a := Lib.hid (Nat.lt_of_lt_of_le Hs_0.out hg.size)
  clear hat hg
  generalize hv1 : (dk l).2 = v1 at *
  have V1 := Lib.hid hv1; clear hv1
  have hb1 : (v1 : Int) ≤ 2 := by omega
  have yf := block_free H5_a.out
  have y10 := block_cell H5_a.out 10
  simp at y10
  have hg : u1.grownBy (u1.setCell ⟨w0.heap.size, 10, none⟩ (.int .i64 (v1 : Int))) (some w0.heap.size) := grown_set _ _ _
  have H5_1 : Hid ((u1.setCell ⟨w0.heap.size, 10, none⟩ (.int .i64 (v1 : Int))).heap[w0.heap.size]? = some (.cells #[.int .u8 0, .int .u8 0, .int .u8 0, .int .u8 0, .int .u8 0, .int .u8 0, .int .u8 0, .int .u8 0, .int .i64 0, .int .i64 0, .int .i64 (v1 : Int), .slice none 0 0, .slice none 0 0] 26 (0, 0))) := by
    show _ = _
    have := (Joins.block_setCell (i := 10) H5_a.out (.int .i64 (v1 : Int)))
    simpa using this
  have At_1 := Lib.hid (At_a.out.grown hg hbt)
  have H2_1 := Lib.hid ((hg.block w.heap.size (by have := Hs_a.out; omega) (by simp; omega)).trans H2_a.out)
  have Hw_1 := Lib.hid (below_gr Hw_a.out hg (by omega))
  have Hs_1 := Lib.hid (Nat.lt_of_lt_of_le Hs_a.out hg.size)
  clear hg
  go_wp2_with fail
  generalize (u1.setCell ⟨w0.heap.size, 10, none⟩ (.int .i64 (v1 : Int))) = x1 at *
  clear yf y10 At_a H2_a H5_a Hw_a Hs_a
  refine (num_at b _ (dk l).1 x1 At_1.out (by omega)).mono ?_
  rintro e u2 ⟨rfl, hat, hg⟩
  rw [show (18446744073709551615 : Int).toNat = 18446744073709551615 from rfl, E2.out] at hat
  rw [show (18446744073709551615 : Int).toNat = 18446744073709551615 from rfl, E2.out]
  have At_a := Lib.hid hat
  have H2_a := Lib.hid ((hg.block w.heap.size (by have := Hs_1.out; omega) (by simp; omega)).trans H2_1.out)
  have H5_a := Lib.hid ((hg.block w0.heap.size Hs_1.out (by simp; omega)).trans H5_1.out)
  have Hw_a := Lib.hid (below_gr Hw_1.out hg (by omega))
  have Hs_a := Lib.hid (Nat.lt_of_lt_of_le Hs_1.out hg.size)
  clear hat hg
  generalize hv2 : (df l).2 = v2 at *
  have V2 := Lib.hid hv2; clear hv2
  go_wp2_with fail
  refine (hfrom_any v2 u2 (by omega)).mono ?_
  rintro e u2' ⟨rfl, hb3⟩
  have hs9 := Hs_a.out
  replace At_a := Lib.hid (At_a.out.below hb3 (by omega))
  replace H2_a := Lib.hid (block_below H2_a.out hb3 (by omega))
  replace H5_a := Lib.hid (block_below H5_a.out hb3 hs9)
  replace Hw_a := Lib.hid (Hw_a.out.trans (hb3.mono Hw_a.out.size))
  replace Hs_a := Lib.hid (Nat.lt_of_lt_of_le hs9 hb3.size)
  clear hb3 hs9
  have yf := block_free H5_a.out
  have y0 := block_cell H5_a.out 0
  have y1 := block_cell H5_a.out 1
  have y2 := block_cell H5_a.out 2
  have y3 := block_cell H5_a.out 3
  have y4 := block_cell H5_a.out 4
  have y5 := block_cell H5_a.out 5
  have y6 := block_cell H5_a.out 6
  have y7 := block_cell H5_a.out 7
  simp at y0 y1 y2 y3 y4 y5 y6 y7
  have hg : u2'.grownBy ((((((((u2'.setCell ⟨w0.heap.size, 0, none⟩ (.int .u8 ((D8.of v2).x0 : Int))).setCell ⟨w0.heap.size, 1, none⟩ (.int .u8 ((D8.of v2).x1 : Int))).setCell ⟨w0.heap.size, 2, none⟩ (.int .u8 ((D8.of v2).x2 : Int))).setCell ⟨w0.heap.size, 3, none⟩ (.int .u8 ((D8.of v2).x3 : Int))).setCell ⟨w0.heap.size, 4, none⟩ (.int .u8 ((D8.of v2).x4 : Int))).setCell ⟨w0.heap.size, 5, none⟩ (.int .u8 ((D8.of v2).x5 : Int))).setCell ⟨w0.heap.size, 6, none⟩ (.int .u8 ((D8.of v2).x6 : Int))).setCell ⟨w0.heap.size, 7, none⟩ (.int .u8 ((D8.of v2).x7 : Int))) (some w0.heap.size) := grown_trans (grown_trans (grown_trans (grown_trans (grown_trans (grown_trans (grown_trans (grown_set _ _ _) (grown_set _ _ _)) (grown_set _ _ _)) (grown_set _ _ _)) (grown_set _ _ _)) (grown_set _ _ _)) (grown_set _ _ _)) (grown_set _ _ _)
  have H5_2 : Hid (((((((((u2'.setCell ⟨w0.heap.size, 0, none⟩ (.int .u8 ((D8.of v2).x0 : Int))).setCell ⟨w0.heap.size, 1, none⟩ (.int .u8 ((D8.of v2).x1 : Int))).setCell ⟨w0.heap.size, 2, none⟩ (.int .u8 ((D8.of v2).x2 : Int))).setCell ⟨w0.heap.size, 3, none⟩ (.int .u8 ((D8.of v2).x3 : Int))).setCell ⟨w0.heap.size, 4, none⟩ (.int .u8 ((D8.of v2).x4 : Int))).setCell ⟨w0.heap.size, 5, none⟩ (.int .u8 ((D8.of v2).x5 : Int))).setCell ⟨w0.heap.size, 6, none⟩ (.int .u8 ((D8.of v2).x6 : Int))).setCell ⟨w0.heap.size, 7, none⟩ (.int .u8 ((D8.of v2).x7 : Int))).heap[w0.heap.size]? = some (.cells #[.int .u8 ((D8.of v2).x0 : Int), .int .u8 ((D8.of v2).x1 : Int), .int .u8 ((D8.of v2).x2 : Int), .int .u8 ((D8.of v2).x3 : Int), .int .u8 ((D8.of v2).x4 : Int), .int .u8 ((D8.of v2).x5 : Int), .int .u8 ((D8.of v2).x6 : Int), .int .u8 ((D8.of v2).x7 : Int), .int .i64 0, .int .i64 0, .int .i64 (v1 : Int), .slice none 0 0, .slice none 0 0] 26 (0, 0))) := by
    show _ = _
    have := (Joins.block_setCell (i := 7) (Joins.block_setCell (i := 6) (Joins.block_setCell (i := 5) (Joins.block_setCell (i := 4) (Joins.block_setCell (i := 3) (Joins.block_setCell (i := 2) (Joins.block_setCell (i := 1) (Joins.block_setCell (i := 0) H5_a.out (.int .u8 ((D8.of v2).x0 : Int))) (.int .u8 ((D8.of v2).x1 : Int))) (.int .u8 ((D8.of v2).x2 : Int))) (.int .u8 ((D8.of v2).x3 : Int))) (.int .u8 ((D8.of v2).x4 : Int))) (.int .u8 ((D8.of v2).x5 : Int))) (.int .u8 ((D8.of v2).x6 : Int))) (.int .u8 ((D8.of v2).x7 : Int)))
    simpa using this
  have At_2 := Lib.hid (At_a.out.grown hg hbt)
  have H2_2 := Lib.hid ((hg.block w.heap.size (by have := Hs_a.out; omega) (by simp; omega)).trans H2_a.out)
  have Hw_2 := Lib.hid (below_gr Hw_a.out hg (by omega))
  have Hs_2 := Lib.hid (Nat.lt_of_lt_of_le Hs_a.out hg.size)
  clear hg
  go_wp2_with fail
  generalize ((((((((u2'.setCell ⟨w0.heap.size, 0, none⟩ (.int .u8 ((D8.of v2).x0 : Int))).setCell ⟨w0.heap.size, 1, none⟩ (.int .u8 ((D8.of v2).x1 : Int))).setCell ⟨w0.heap.size, 2, none⟩ (.int .u8 ((D8.of v2).x2 : Int))).setCell ⟨w0.heap.size, 3, none⟩ (.int .u8 ((D8.of v2).x3 : Int))).setCell ⟨w0.heap.size, 4, none⟩ (.int .u8 ((D8.of v2).x4 : Int))).setCell ⟨w0.heap.size, 5, none⟩ (.int .u8 ((D8.of v2).x5 : Int))).setCell ⟨w0.heap.size, 6, none⟩ (.int .u8 ((D8.of v2).x6 : Int))).setCell ⟨w0.heap.size, 7, none⟩ (.int .u8 ((D8.of v2).x7 : Int))) = x2 at *
  clear yf y0 y1 y2 y3 y4 y5 y6 y7 At_a H2_a H5_a Hw_a Hs_a
  refine (num_at b _ (df l).1 x2 At_2.out (by omega)).mono ?_
  rintro e u3 ⟨rfl, hat, hg⟩
  rw [show (1099511627776 : Int).toNat = 1099511627776 from rfl, E3.out] at hat
  rw [show (1099511627776 : Int).toNat = 1099511627776 from rfl, E3.out]
  have At_a := Lib.hid hat
  have H2_a := Lib.hid ((hg.block w.heap.size (by have := Hs_2.out; omega) (by simp; omega)).trans H2_2.out)
  have H5_a := Lib.hid ((hg.block w0.heap.size Hs_2.out (by simp; omega)).trans H5_2.out)
  have Hw_a := Lib.hid (below_gr Hw_2.out hg (by omega))
  have Hs_a := Lib.hid (Nat.lt_of_lt_of_le Hs_2.out hg.size)
  clear hat hg
  generalize hv3 : (dn l).2 = v3 at *
  have V3 := Lib.hid hv3; clear hv3
  have hb3 : (v3 : Int) ≤ 1099511627776 := by omega
  have yf := block_free H5_a.out
  have y8 := block_cell H5_a.out 8
  simp at y8
  have hg : u3.grownBy (u3.setCell ⟨w0.heap.size, 8, none⟩ (.int .i64 (v3 : Int))) (some w0.heap.size) := grown_set _ _ _
  have H5_3 : Hid ((u3.setCell ⟨w0.heap.size, 8, none⟩ (.int .i64 (v3 : Int))).heap[w0.heap.size]? = some (.cells #[.int .u8 ((D8.of v2).x0 : Int), .int .u8 ((D8.of v2).x1 : Int), .int .u8 ((D8.of v2).x2 : Int), .int .u8 ((D8.of v2).x3 : Int), .int .u8 ((D8.of v2).x4 : Int), .int .u8 ((D8.of v2).x5 : Int), .int .u8 ((D8.of v2).x6 : Int), .int .u8 ((D8.of v2).x7 : Int), .int .i64 (v3 : Int), .int .i64 0, .int .i64 (v1 : Int), .slice none 0 0, .slice none 0 0] 26 (0, 0))) := by
    show _ = _
    have := (Joins.block_setCell (i := 8) H5_a.out (.int .i64 (v3 : Int)))
    simpa using this
  have At_3 := Lib.hid (At_a.out.grown hg hbt)
  have H2_3 := Lib.hid ((hg.block w.heap.size (by have := Hs_a.out; omega) (by simp; omega)).trans H2_a.out)
  have Hw_3 := Lib.hid (below_gr Hw_a.out hg (by omega))
  have Hs_3 := Lib.hid (Nat.lt_of_lt_of_le Hs_a.out hg.size)
  clear hg
  go_wp2_with fail
  generalize (u3.setCell ⟨w0.heap.size, 8, none⟩ (.int .i64 (v3 : Int))) = x3 at *
  clear yf y8 At_a H2_a H5_a Hw_a Hs_a
  refine (num_at b _ (dn l).1 x3 At_3.out (by omega)).mono ?_
  rintro e u4 ⟨rfl, hat, hg⟩
  rw [show (1125899906842624 : Int).toNat = 1125899906842624 from rfl, E4.out] at hat
  rw [show (1125899906842624 : Int).toNat = 1125899906842624 from rfl, E4.out]
  have At_a := Lib.hid hat
  have H2_a := Lib.hid ((hg.block w.heap.size (by have := Hs_3.out; omega) (by simp; omega)).trans H2_3.out)
  have H5_a := Lib.hid ((hg.block w0.heap.size Hs_3.out (by simp; omega)).trans H5_3.out)
  have Hw_a := Lib.hid (below_gr Hw_3.out hg (by omega))
  have Hs_a := Lib.hid (Nat.lt_of_lt_of_le Hs_3.out hg.size)
  clear hat hg
  generalize hv4 : (de l).2 = v4 at *
  have V4 := Lib.hid hv4; clear hv4
  have hb4 : (v4 : Int) ≤ 1125899906842624 := by omega
  have yf := block_free H5_a.out
  have y9 := block_cell H5_a.out 9
  simp at y9
  have hg : u4.grownBy (u4.setCell ⟨w0.heap.size, 9, none⟩ (.int .i64 (v4 : Int))) (some w0.heap.size) := grown_set _ _ _
  have H5_4 : Hid ((u4.setCell ⟨w0.heap.size, 9, none⟩ (.int .i64 (v4 : Int))).heap[w0.heap.size]? = some (.cells #[.int .u8 ((D8.of v2).x0 : Int), .int .u8 ((D8.of v2).x1 : Int), .int .u8 ((D8.of v2).x2 : Int), .int .u8 ((D8.of v2).x3 : Int), .int .u8 ((D8.of v2).x4 : Int), .int .u8 ((D8.of v2).x5 : Int), .int .u8 ((D8.of v2).x6 : Int), .int .u8 ((D8.of v2).x7 : Int), .int .i64 (v3 : Int), .int .i64 (v4 : Int), .int .i64 (v1 : Int), .slice none 0 0, .slice none 0 0] 26 (0, 0))) := by
    show _ = _
    have := (Joins.block_setCell (i := 9) H5_a.out (.int .i64 (v4 : Int)))
    simpa using this
  have At_4 := Lib.hid (At_a.out.grown hg hbt)
  have H2_4 := Lib.hid ((hg.block w.heap.size (by have := Hs_a.out; omega) (by simp; omega)).trans H2_a.out)
  have Hw_4 := Lib.hid (below_gr Hw_a.out hg (by omega))
  have Hs_4 := Lib.hid (Nat.lt_of_lt_of_le Hs_a.out hg.size)
  clear hg
  go_wp2_with fail
  generalize (u4.setCell ⟨w0.heap.size, 9, none⟩ (.int .i64 (v4 : Int))) = x4 at *
  clear yf y9 At_a H2_a H5_a Hw_a Hs_a
  refine (bytes_at b _ (de l).1 x4 At_4.out (by omega) (by omega)).mono ?_
  rintro e u5 ⟨A5, n5, c5, rfl, ho, hnl, hat, hg⟩
  rw [show (32768 : Int).toNat = 32768 from rfl, E5.out] at hat ho hnl
  have Ho5_a := Lib.hid ho; have Hnl5 := Lib.hid hnl
  clear ho hnl
  have At_a := Lib.hid hat
  have H2_a := Lib.hid ((hg.block w.heap.size (by have := Hs_4.out; omega) (by simp; omega)).trans H2_4.out)
  have H5_a := Lib.hid ((hg.block w0.heap.size Hs_4.out (by simp; omega)).trans H5_4.out)
  have Hw_a := Lib.hid (below_gr Hw_4.out hg (by omega))
  have Hs_a := Lib.hid (Nat.lt_of_lt_of_le Hs_4.out hg.size)
  clear hat hg
  have yf := block_free H5_a.out
  have y11 := block_cell H5_a.out 11
  simp at y11
  have hg : u5.grownBy (u5.setCell ⟨w0.heap.size, 11, none⟩ (.slice A5 n5 c5)) (some w0.heap.size) := grown_set _ _ _
  have H5_5 : Hid ((u5.setCell ⟨w0.heap.size, 11, none⟩ (.slice A5 n5 c5)).heap[w0.heap.size]? = some (.cells #[.int .u8 ((D8.of v2).x0 : Int), .int .u8 ((D8.of v2).x1 : Int), .int .u8 ((D8.of v2).x2 : Int), .int .u8 ((D8.of v2).x3 : Int), .int .u8 ((D8.of v2).x4 : Int), .int .u8 ((D8.of v2).x5 : Int), .int .u8 ((D8.of v2).x6 : Int), .int .u8 ((D8.of v2).x7 : Int), .int .i64 (v3 : Int), .int .i64 (v4 : Int), .int .i64 (v1 : Int), .slice A5 n5 c5, .slice none 0 0] 26 (0, 0))) := by
    show _ = _
    have := (Joins.block_setCell (i := 11) H5_a.out (.slice A5 n5 c5))
    simpa using this
  have At_5 := Lib.hid (At_a.out.grown hg hbt)
  have H2_5 := Lib.hid ((hg.block w.heap.size (by have := Hs_a.out; omega) (by simp; omega)).trans H2_a.out)
  have Hw_5 := Lib.hid (below_gr Hw_a.out hg (by omega))
  have Hs_5 := Lib.hid (Nat.lt_of_lt_of_le Hs_a.out hg.size)
  have Hk_5 : Hid (b < x4.heap.size) := by show _ < _; have := Hs_4.out; omega
  have Ho5_5 := Lib.hid (own_grown Ho5_a.out hg Hs_4.out)
  clear hg
  go_wp2_with fail
  generalize (u5.setCell ⟨w0.heap.size, 11, none⟩ (.slice A5 n5 c5)) = x5 at *
  clear yf y11 At_a H2_a H5_a Hw_a Hs_a
  refine (bytes_at b _ (db l).1 x5 At_5.out (by omega) (by omega)).mono ?_
  rintro e u6 ⟨A6, n6, c6, rfl, ho, hnl, hat, hg⟩
  rw [show (1024 : Int).toNat = 1024 from rfl, E6.out] at hat ho hnl
  have Ho6_a := Lib.hid ho; have Hnl6 := Lib.hid hnl
  have Ho5_6 := Lib.hid (own_grown Ho5_5.out hg (by have := Hk_5.out; omega))
  clear ho hnl
  have At_a := Lib.hid hat
  have H2_a := Lib.hid ((hg.block w.heap.size (by have := Hs_5.out; omega) (by simp; omega)).trans H2_5.out)
  have H5_a := Lib.hid ((hg.block w0.heap.size Hs_5.out (by simp; omega)).trans H5_5.out)
  have Hw_a := Lib.hid (below_gr Hw_5.out hg (by omega))
  have Hs_a := Lib.hid (Nat.lt_of_lt_of_le Hs_5.out hg.size)
  clear hat hg
  have yf := block_free H5_a.out
  have y12 := block_cell H5_a.out 12
  simp at y12
  have hg : u6.grownBy (u6.setCell ⟨w0.heap.size, 12, none⟩ (.slice A6 n6 c6)) (some w0.heap.size) := grown_set _ _ _
  have H5_6 : Hid ((u6.setCell ⟨w0.heap.size, 12, none⟩ (.slice A6 n6 c6)).heap[w0.heap.size]? = some (.cells #[.int .u8 ((D8.of v2).x0 : Int), .int .u8 ((D8.of v2).x1 : Int), .int .u8 ((D8.of v2).x2 : Int), .int .u8 ((D8.of v2).x3 : Int), .int .u8 ((D8.of v2).x4 : Int), .int .u8 ((D8.of v2).x5 : Int), .int .u8 ((D8.of v2).x6 : Int), .int .u8 ((D8.of v2).x7 : Int), .int .i64 (v3 : Int), .int .i64 (v4 : Int), .int .i64 (v1 : Int), .slice A5 n5 c5, .slice A6 n6 c6] 26 (0, 0))) := by
    show _ = _
    have := (Joins.block_setCell (i := 12) H5_a.out (.slice A6 n6 c6))
    simpa using this
  have At_6 := Lib.hid (At_a.out.grown hg hbt)
  have H2_6 := Lib.hid ((hg.block w.heap.size (by have := Hs_a.out; omega) (by simp; omega)).trans H2_a.out)
  have Hw_6 := Lib.hid (below_gr Hw_a.out hg (by omega))
  have Hs_6 := Lib.hid (Nat.lt_of_lt_of_le Hs_a.out hg.size)
  have Ho5_7 := Lib.hid (own_grown Ho5_6.out hg Hs_4.out)
  have Ho6_7 := Lib.hid (own_grown Ho6_a.out hg Hs_5.out)
  clear hg
  go_wp2_with fail
  generalize (u6.setCell ⟨w0.heap.size, 12, none⟩ (.slice A6 n6 c6)) = x6 at *
  clear yf y12 At_a H2_a H5_a Hw_a Hs_a
  refine (end_any b (ds l).1 x6 At_6.out).mono ?_
  rintro e x7 ⟨rfl, k, rfl⟩
  have y := block_cell H2_6.out
  have y0 := y 0; have y1 := y 1; have y2 := y 2; have y3 := y 3; have y4 := y 4; have y5 := y 5; have y6 := y 6; have y7 := y 7; have y8 := y 8; have y9 := y 9; have y10 := y 10; have y11 := y 11; have y12 := y 12
  have yf := block_free H2_6.out
  simp at y0 y1 y2 y3 y4 y5 y6 y7 y8 y9 y10 y11 y12
  clear y
  by_cases he : endRS (ds l).1 = 0
  · have b1 : (endRS (ds l).1 != 0) = false := by simpa using he
    rw [if_pos he] at Hderr
    clear he
    have z := block_cell H5_6.out
    have z0 := z 0; have z1 := z 1; have z2 := z 2; have z3 := z 3; have z4 := z 4; have z5 := z 5; have z6 := z 6; have z7 := z 7; have z8 := z 8; have z9 := z 9; have z10 := z 10; have z11 := z 11; have z12 := z 12
    simp at z0 z1 z2 z3 z4 z5 z6 z7 z8 z9 z10 z11 z12
    clear z
    have hat6 : TxV.At ⟨D8.of v2, (v3 : Int), (v4 : Int), (v1 : Int), A5, n5, c5, A6, n6, c6, (db l).2, (ds l).2⟩ x6 :=
      ⟨D8.of_ok v2, Rd.of_own Ho5_7.out, Rd.of_own Ho6_7.out, own_cap Ho5_7.out, own_cap Ho6_7.out, N5.out, N6.out, by have := Hnl5.out; have := M5.out; simp only; omega, by have := Hnl6.out; have := M6.out; simp only; omega⟩
    have Hat6 := Lib.hid (hat6.up ((Below.refl _ _ : Below x6.heap.size x6 x6) |> fun h => below_drewN h k))
    clear hat6
    go_wp2_with fail
    refine (check_any ⟨D8.of v2, (v3 : Int), (v4 : Int), (v1 : Int), A5, n5, c5, A6, n6, c6, (db l).2, (ds l).2⟩ _ Hat6.out).mono ?_
    rintro e x8 ⟨rfl, hb8⟩
    have H2_8 := Lib.hid (block_below (w := x6.drewN k) H2_6.out hb8 (by have := Hs_6.out; show w.heap.size < x6.heap.size; omega))
    have H5_8 := Lib.hid (block_below (w := x6.drewN k) H5_6.out hb8 Hs_6.out)
    have Hw_8 := Lib.hid ((below_drewN Hw_6.out k).trans (hb8.mono Hw_6.out.size))
    have Ho5_8 := Lib.hid (own_below (w := x6.drewN k) Ho5_7.out hb8)
    have Ho6_8 := Lib.hid (own_below (w := x6.drewN k) Ho6_7.out hb8)
    have hk4 := Hk_5.out
    have hk5 : w.heap.size < x5.heap.size := by have := Hs_5.out; omega
    clear hb8 y0 y1 y2 y3 y4 y5 y6 y7 y8 y9 y10 y11 y12 yf z0 z1 z2 z3 z4 z5 z6 z7 z8 z9 z10 z11 z12
    have y := block_cell H2_8.out
    have y0 := y 0; have y1 := y 1; have y2 := y 2; have y3 := y 3; have y4 := y 4; have y5 := y 5; have y6 := y 6; have y7 := y 7; have y8 := y 8; have y9 := y 9; have y10 := y 10; have y11 := y 11; have y12 := y 12
    have yf := block_free H2_8.out
    simp at y0 y1 y2 y3 y4 y5 y6 y7 y8 y9 y10 y11 y12
    clear y
    simp only at Hderr ⊢
    by_cases hc : checkT (v3 : Int) (v4 : Int) (v1 : Int) (db l).2 (ds l).2 = 0
    · have b2 : (checkT (v3 : Int) (v4 : Int) (v1 : Int) (db l).2 (ds l).2 != 0) = false := by simpa using hc
      rw [hc] at Hderr
      rw [Hderr.out, if_pos rfl] at Hdec
      clear hc
      have z := block_cell H5_8.out
      have z0 := z 0; have z1 := z 1; have z2 := z 2; have z3 := z 3; have z4 := z 4; have z5 := z 5; have z6 := z 6; have z7 := z 7; have z8 := z 8; have z9 := z 9; have z10 := z 10; have z11 := z 11; have z12 := z 12
      simp at z0 z1 z2 z3 z4 z5 z6 z7 z8 z9 z10 z11 z12
      clear z
      go_wp2
      refine bodyPost_ret (v := .tuple #[.agg #[.int .u8 ((D8.of v2).x0 : Int), .int .u8 ((D8.of v2).x1 : Int), .int .u8 ((D8.of v2).x2 : Int), .int .u8 ((D8.of v2).x3 : Int), .int .u8 ((D8.of v2).x4 : Int), .int .u8 ((D8.of v2).x5 : Int), .int .u8 ((D8.of v2).x6 : Int), .int .u8 ((D8.of v2).x7 : Int), .int .i64 (v3 : Int), .int .i64 (v4 : Int), .int .i64 (v1 : Int), .slice A5 n5 c5, .slice A6 n6 c6], .int .i64 0]) (by simp [results, Try.results23, go_sem, y0, y1, y2, y3, y4, y5, y6, y7, y8, y9, y10, y11, y12]) rfl
        ⟨⟨D8.of v2, (v3 : Int), (v4 : Int), (v1 : Int), A5, n5, c5, A6, n6, c6, (db l).2, (ds l).2⟩, by rw [Hderr.out], by rw [Hdec.out]; exact ⟨rfl, rfl, rfl, rfl, rfl, rfl⟩, ?_, ?_⟩
      · refine ⟨D8.of_ok v2, Rd.of_own (base := x4.heap.size) (e := 5) (n := n5) (c := c5) ?_, Rd.of_own (base := x5.heap.size) (e := 5) (n := n6) (c := c6) ?_, own_cap Ho5_8.out, own_cap Ho6_8.out, N5.out, N6.out, by have := Hnl5.out; have := M5.out; simp only; omega, by have := Hnl6.out; have := M6.out; simp only; omega⟩
        · repeat refine ownsRow_setCell_below ?_ (by show w.heap.size < _; omega) _
          exact Ho5_8.out
        · repeat refine ownsRow_setCell_below ?_ (by show w.heap.size < _; omega) _
          exact Ho6_8.out
      · exact ((((((((((((((Hw_8.out).setCell (by simp) _).setCell (by simp) _).setCell (by simp) _).setCell (by simp) _).setCell (by simp) _).setCell (by simp) _).setCell (by simp) _).setCell (by simp) _).setCell (by simp) _).setCell (by simp) _).setCell (by simp) _).setCell (by simp) _).setCell (by simp) _)
    · have b2 : (checkT (v3 : Int) (v4 : Int) (v1 : Int) (db l).2 (ds l).2 != 0) = true := by simpa using hc
      have hne : derr l ≠ 0 := by rw [Hderr.out]; exact hc
      rw [if_neg hne] at Hdec
      clear hc hne
      go_wp2
      refine bodyPost_ret (v := .tuple #[.agg #[.int .u8 0, .int .u8 0, .int .u8 0, .int .u8 0, .int .u8 0, .int .u8 0, .int .u8 0, .int .u8 0, .int .i64 0, .int .i64 0, .int .i64 0, .slice none 0 0, .slice none 0 0], .int .i64 (checkT (v3 : Int) (v4 : Int) (v1 : Int) (db l).2 (ds l).2)]) (by simp [results, Try.results23, go_sem, y0, y1, y2, y3, y4, y5, y6, y7, y8, y9, y10, y11, y12]) rfl
        ⟨⟨d0, 0, 0, 0, none, 0, 0, none, 0, 0, [], []⟩, by rw [Hderr.out]; rfl, by rw [Hdec.out]; exact ⟨rfl, rfl, rfl, rfl, rfl, rfl⟩, at0 _, ?_⟩
      exact ((((((((((((((Hw_8.out).setCell (by simp) _).setCell (by simp) _).setCell (by simp) _).setCell (by simp) _).setCell (by simp) _).setCell (by simp) _).setCell (by simp) _).setCell (by simp) _).setCell (by simp) _).setCell (by simp) _).setCell (by simp) _).setCell (by simp) _).setCell (by simp) _)
  · have b1 : (endRS (ds l).1 != 0) = true := by simpa using he
    rw [if_neg he] at Hderr
    have hne : derr l ≠ 0 := by rw [Hderr.out]; exact he
    rw [if_neg hne] at Hdec
    clear he hne
    go_wp2
    refine bodyPost_ret (v := .tuple #[.agg #[.int .u8 0, .int .u8 0, .int .u8 0, .int .u8 0, .int .u8 0, .int .u8 0, .int .u8 0, .int .u8 0, .int .i64 0, .int .i64 0, .int .i64 0, .slice none 0 0, .slice none 0 0], .int .i64 (endRS (ds l).1)]) (by simp [results, Try.results23, go_sem, y0, y1, y2, y3, y4, y5, y6, y7, y8, y9, y10, y11, y12]) rfl
      ⟨⟨d0, 0, 0, 0, none, 0, 0, none, 0, 0, [], []⟩, by rw [Hderr.out]; rfl, by rw [Hdec.out]; exact ⟨rfl, rfl, rfl, rfl, rfl, rfl⟩, at0 _, ?_⟩
    exact (((((((((((((((below_drewN Hw_6.out k)).setCell (by simp) _).setCell (by simp) _).setCell (by simp) _).setCell (by simp) _).setCell (by simp) _).setCell (by simp) _).setCell (by simp) _).setCell (by simp) _).setCell (by simp) _).setCell (by simp) _).setCell (by simp) _).setCell (by simp) _).setCell (by simp) _)
end Go.Proofs.Ytebepgoaofhelaa
