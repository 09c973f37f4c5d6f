/- The walk of the reference's Decode of a transaction. Conditions: bounds on how many bytes. -/
import Derived.Test.YtebepgoaofhelaaTxG
namespace Go.Proofs.Ytebepgoaofhelaa
open Go.RowKit Go.Lib


theorem bytesRS_at (s : RS) (m : Nat) (h : s.at_ ≤ s.l.length) : (bytesRS s m).1.at_ ≤ s.l.length := by
  unfold bytesRS
  split
  · exact h
  · split
    · exact h
    · have := takeB_len (s.l.drop s.at_) m
      rw [List.length_drop] at this
      simp only; omega
set_option maxRecDepth 100000 in
set_option maxHeartbeats 8000000 in
theorem rdecode_any (A : Option Addr) (n c : Nat) (l : List Nat) (w : World) (hr : Rd w w.heap.size 1 A n (bv l)) (hnc : n ≤ c) (hn : n ≤ 100000000) (hb : ∀ x ∈ l, x < 256) :
    Calls Try.prog 24 #[.slice A n c] w (GivesTx w (decT l) (derr l)) := by
  have Hln := Lib.hid hr.blen
  have Hb := Lib.hid hb
  have E1 := Lib.hid (show numRS ⟨l, 0, 0⟩ 2 = dk l from rfl)
  have E2 := Lib.hid (show numRS (dk l).1 18446744073709551615 = df l from rfl)
  have E3 := Lib.hid (show numRS (df l).1 1099511627776 = dn l from rfl)
  have E4 := Lib.hid (show numRS (dn l).1 1125899906842624 = de l from rfl)
  have E5 := Lib.hid (show bytesRS (de l).1 32768 = db l from rfl)
  have E6 := Lib.hid (show bytesRS (db l).1 1024 = ds l from rfl)
  have F1 : Hid ((dk l).1.l = l) := numRS_l _ _
  have F2 : Hid ((df l).1.l = l) := (numRS_l _ _).trans F1.out
  have F3 : Hid ((dn l).1.l = l) := (numRS_l _ _).trans F2.out
  have F4 : Hid ((de l).1.l = l) := (numRS_l _ _).trans F3.out
  have F5 : Hid ((db l).1.l = l) := (bytesRS_l _ _).trans F4.out
  have F6 : Hid ((ds l).1.l = l) := (bytesRS_l _ _).trans F5.out
  have G1 : (dk l).1.at_ ≤ n := by have := numRS_at ⟨l, 0, 0⟩ 2 (by simp); rw [E1.out, F1.out, Hln.out] at this; exact this
  have G2 : (df l).1.at_ ≤ n := by have := numRS_at (dk l).1 18446744073709551615 (by rw [F1.out, Hln.out]; exact G1); rw [E2.out, F2.out, Hln.out] at this; exact this
  have G3 : (dn l).1.at_ ≤ n := by have := numRS_at (df l).1 1099511627776 (by rw [F2.out, Hln.out]; exact G2); rw [E3.out, F3.out, Hln.out] at this; exact this
  have G4 : (de l).1.at_ ≤ n := by have := numRS_at (dn l).1 1125899906842624 (by rw [F3.out, Hln.out]; exact G3); rw [E4.out, F4.out, Hln.out] at this; exact this
  have G5 : (db l).1.at_ ≤ n := by have := bytesRS_at (de l).1 32768 (by rw [F4.out, Hln.out]; exact G4); rw [E5.out, F4.out, Hln.out] at this; exact this
  have L1 := numRS_le ⟨l, 0, 0⟩ 2; have L2 := numRS_le (dk l).1 18446744073709551615; have L3 := numRS_le (df l).1 1099511627776; have L4 := numRS_le (dn l).1 1125899906842624
  have M5 := Lib.hid (bytesRS_len (de l).1 32768); have M6 := Lib.hid (bytesRS_len (db l).1 1024)
  have N5 : Hid (∀ x ∈ (db l).2, x < 256) := fun x hx => Hb.out x (by have h1 := bytesRS_mem (de l).1 32768 x hx; rwa [F4.out] at h1)
  have N6 : Hid (∀ x ∈ (ds l).2, x < 256) := fun x hx => Hb.out x (by have h1 := bytesRS_mem (db l).1 1024 x hx; rwa [F5.out] at h1)
  rw [E1.out] at L1; rw [E2.out] at L2; rw [E3.out] at L3; rw [E4.out] at L4; rw [E5.out] at M5; rw [E6.out] at M6
  have Hderr : Hid (derr l = if endRS (ds l).1 = 0 then checkT (dn l).2 (de l).2 (dk l).2 (db l).2 (ds l).2 else endRS (ds l).1) := Lib.hid rfl
  have Hdec : Hid (decT l = if derr l = 0 then ⟨D8.of (df l).2, (dn l).2, (de l).2, (dk l).2, (db l).2, (ds l).2⟩ else tx0) := Lib.hid rfl
  have H2_0 : Hid (((w.alloc (.cells #[.int .u8 0, .int .u8 0, .int .u8 0, .int .u8 0, .int .u8 0, .int .u8 0, .int .u8 0, .int .u8 0, .int .i64 0, .int .i64 0, .int .i64 0, .slice none 0 0, .slice none 0 0] 34)).alloc (.cells #[.slice A n c, .int .i64 0, .int .i64 0] 74)).heap[w.heap.size]? = some (.cells #[.int .u8 0, .int .u8 0, .int .u8 0, .int .u8 0, .int .u8 0, .int .u8 0, .int .u8 0, .int .u8 0, .int .i64 0, .int .i64 0, .int .i64 0, .slice none 0 0, .slice none 0 0] 34 (0, 0))) := block_alloc (heap_alloc_new w _) _
  have H4_0 : Hid (((w.alloc (.cells #[.int .u8 0, .int .u8 0, .int .u8 0, .int .u8 0, .int .u8 0, .int .u8 0, .int .u8 0, .int .u8 0, .int .i64 0, .int .i64 0, .int .i64 0, .slice none 0 0, .slice none 0 0] 34)).alloc (.cells #[.slice A n c, .int .i64 0, .int .i64 0] 74)).heap[w.heap.size + 1]? = some (.cells #[.slice A n c, .int .i64 0, .int .i64 0] 74 (0, 0))) := by
    have := heap_alloc_new (w.alloc (.cells #[.int .u8 0, .int .u8 0, .int .u8 0, .int .u8 0, .int .u8 0, .int .u8 0, .int .u8 0, .int .u8 0, .int .i64 0, .int .i64 0, .int .i64 0, .slice none 0 0, .slice none 0 0] 34)) (.cells #[.slice A n c, .int .i64 0, .int .i64 0] 74)
    rw [World.size_alloc] at this; exact this
  have Hw_0 := Lib.hid (below_two w (.cells #[.int .u8 0, .int .u8 0, .int .u8 0, .int .u8 0, .int .u8 0, .int .u8 0, .int .u8 0, .int .u8 0, .int .i64 0, .int .i64 0, .int .i64 0, .slice none 0 0, .slice none 0 0] 34) (.cells #[.slice A n c, .int .i64 0, .int .i64 0] 74))
  have Hr_0 := Lib.hid (hr.below Hw_0.out (Nat.le_refl _))
  have Hs_0 : Hid (w.heap.size + 1 < ((w.alloc (.cells #[.int .u8 0, .int .u8 0, .int .u8 0, .int .u8 0, .int .u8 0, .int .u8 0, .int .u8 0, .int .u8 0, .int .i64 0, .int .i64 0, .int .i64 0, .slice none 0 0, .slice none 0 0] 34)).alloc (.cells #[.slice A n c, .int .i64 0, .int .i64 0] 74)).heap.size) := by show _ < _; simp
  clear hr hb
  go_enter Try.func24, Try.ntmps24
  go_wp2_with fail
  generalize (w.alloc (.cells #[.int .u8 0, .int .u8 0, .int .u8 0, .int .u8 0, .int .u8 0, .int .u8 0, .int .u8 0, .int .u8 0, .int .i64 0, .int .i64 0, .int .i64 0, .slice none 0 0, .slice none 0 0] 34)).alloc (.cells #[.slice A n c, .int .i64 0, .int .i64 0] 74) = x0 at *
  refine (readr_at A n c _ ⟨l, 0, 0⟩ x0 (by exact Hr_0.out.more (by have := Hs_0.out; omega)) hnc (by omega) (by simp) (by exact Hb.out) (by omega)).mono ?_
  rintro e u1 ⟨rfl, hbu⟩
  rw [show (2 : Int).toNat = 2 from rfl, E1.out]
  have T2 := block_below H2_0.out hbu (by have := Hs_0.out; omega)
  have T4 := block_below H4_0.out hbu Hs_0.out
  have Hr_a := Lib.hid (Hr_0.out.below hbu (by have := Hs_0.out; omega))
  have Hw_a := Lib.hid (Hw_0.out.trans (hbu.mono Hw_0.out.size))
  have Hs_a := Lib.hid (Nat.lt_of_lt_of_le Hs_0.out hbu.size)
  have q0 := block_cell T4 0; have q1 := block_cell T4 1; have q2 := block_cell T4 2; have qf := block_free T4
  simp at q0 q1 q2
  obtain ⟨s4, sg⟩ := set3 T4 (.slice A n c) (.int .i64 ((dk l).1.at_ : Int)) (.int .i64 (dk l).1.err)
  have H4_1 := Lib.hid s4
  have H2_1 := Lib.hid ((sg.block w.heap.size (by have := Hs_a.out; omega) (by simp)).trans T2)
  have Hr_1 := Lib.hid (Hr_a.out.grown sg (by have := Hs_a.out; omega) (fun g hg => by cases hg; omega))
  have Hw_1 := Lib.hid (below_gr Hw_a.out sg (by omega))
  have Hs_1 := Lib.hid (Nat.lt_of_lt_of_le Hs_a.out sg.size)
  clear hbu T2 T4 s4 sg
  generalize hv1 : (dk l).2 = v1 at *
  have V1 := Lib.hid hv1; clear hv1
  go_wp2_with fail
  generalize ((u1.setCell ⟨w.heap.size + 1, 0, none⟩ (.slice A n c)).setCell ⟨w.heap.size + 1, 1, none⟩ (.int .i64 ((dk l).1.at_ : Int))).setCell ⟨w.heap.size + 1, 2, none⟩ (.int .i64 (dk l).1.err) = x1 at *
  clear q0 q1 q2 qf Hr_a Hw_a Hs_a
  refine (readr_at A n c _ (dk l).1 x1 (by rw [F1.out]; exact Hr_1.out.more (by have := Hs_1.out; omega)) hnc (by omega) G1 (by rw [F1.out]; exact Hb.out) (by omega)).mono ?_
  rintro e u2 ⟨rfl, hbu⟩
  rw [show (18446744073709551615 : Int).toNat = 18446744073709551615 from rfl, E2.out]
  have T2 := block_below H2_1.out hbu (by have := Hs_1.out; omega)
  have T4 := block_below H4_1.out hbu Hs_1.out
  have Hr_a := Lib.hid (Hr_1.out.below hbu (by have := Hs_1.out; omega))
  have Hw_a := Lib.hid (Hw_1.out.trans (hbu.mono Hw_1.out.size))
  have Hs_a := Lib.hid (Nat.lt_of_lt_of_le Hs_1.out hbu.size)
  have q0 := block_cell T4 0; have q1 := block_cell T4 1; have q2 := block_cell T4 2; have qf := block_free T4
  simp at q0 q1 q2
  obtain ⟨s4, sg⟩ := set3 T4 (.slice A n c) (.int .i64 ((df l).1.at_ : Int)) (.int .i64 (df l).1.err)
  have H4_2 := Lib.hid s4
  have H2_2 := Lib.hid ((sg.block w.heap.size (by have := Hs_a.out; omega) (by simp)).trans T2)
  have Hr_2 := Lib.hid (Hr_a.out.grown sg (by have := Hs_a.out; omega) (fun g hg => by cases hg; omega))
  have Hw_2 := Lib.hid (below_gr Hw_a.out sg (by omega))
  have Hs_2 := Lib.hid (Nat.lt_of_lt_of_le Hs_a.out sg.size)
  clear hbu T2 T4 s4 sg
  generalize hv2 : (df l).2 = v2 at *
  have V2 := Lib.hid hv2; clear hv2
  go_wp2_with fail
  generalize ((u2.setCell ⟨w.heap.size + 1, 0, none⟩ (.slice A n c)).setCell ⟨w.heap.size + 1, 1, none⟩ (.int .i64 ((df l).1.at_ : Int))).setCell ⟨w.heap.size + 1, 2, none⟩ (.int .i64 (df l).1.err) = x2 at *
  clear q0 q1 q2 qf Hr_a Hw_a Hs_a
  refine (readr_at A n c _ (df l).1 x2 (by rw [F2.out]; exact Hr_2.out.more (by have := Hs_2.out; omega)) hnc (by omega) G2 (by rw [F2.out]; exact Hb.out) (by omega)).mono ?_
  rintro e u3 ⟨rfl, hbu⟩
  rw [show (1099511627776 : Int).toNat = 1099511627776 from rfl, E3.out]
  have T2 := block_below H2_2.out hbu (by have := Hs_2.out; omega)
  have T4 := block_below H4_2.out hbu Hs_2.out
  have Hr_a := Lib.hid (Hr_2.out.below hbu (by have := Hs_2.out; omega))
  have Hw_a := Lib.hid (Hw_2.out.trans (hbu.mono Hw_2.out.size))
  have Hs_a := Lib.hid (Nat.lt_of_lt_of_le Hs_2.out hbu.size)
  have q0 := block_cell T4 0; have q1 := block_cell T4 1; have q2 := block_cell T4 2; have qf := block_free T4
  simp at q0 q1 q2
  obtain ⟨s4, sg⟩ := set3 T4 (.slice A n c) (.int .i64 ((dn l).1.at_ : Int)) (.int .i64 (dn l).1.err)
  have H4_3 := Lib.hid s4
  have H2_3 := Lib.hid ((sg.block w.heap.size (by have := Hs_a.out; omega) (by simp)).trans T2)
  have Hr_3 := Lib.hid (Hr_a.out.grown sg (by have := Hs_a.out; omega) (fun g hg => by cases hg; omega))
  have Hw_3 := Lib.hid (below_gr Hw_a.out sg (by omega))
  have Hs_3 := Lib.hid (Nat.lt_of_lt_of_le Hs_a.out sg.size)
  clear hbu T2 T4 s4 sg
  generalize hv3 : (dn l).2 = v3 at *
  have V3 := Lib.hid hv3; clear hv3
  go_wp2_with fail
  generalize ((u3.setCell ⟨w.heap.size + 1, 0, none⟩ (.slice A n c)).setCell ⟨w.heap.size + 1, 1, none⟩ (.int .i64 ((dn l).1.at_ : Int))).setCell ⟨w.heap.size + 1, 2, none⟩ (.int .i64 (dn l).1.err) = x3 at *
  clear q0 q1 q2 qf Hr_a Hw_a Hs_a
  refine (readr_at A n c _ (dn l).1 x3 (by rw [F3.out]; exact Hr_3.out.more (by have := Hs_3.out; omega)) hnc (by omega) G3 (by rw [F3.out]; exact Hb.out) (by omega)).mono ?_
  rintro e u4 ⟨rfl, hbu⟩
  rw [show (1125899906842624 : Int).toNat = 1125899906842624 from rfl, E4.out]
  have T2 := block_below H2_3.out hbu (by have := Hs_3.out; omega)
  have T4 := block_below H4_3.out hbu Hs_3.out
  have Hr_a := Lib.hid (Hr_3.out.below hbu (by have := Hs_3.out; omega))
  have Hw_a := Lib.hid (Hw_3.out.trans (hbu.mono Hw_3.out.size))
  have Hs_a := Lib.hid (Nat.lt_of_lt_of_le Hs_3.out hbu.size)
  have q0 := block_cell T4 0; have q1 := block_cell T4 1; have q2 := block_cell T4 2; have qf := block_free T4
  simp at q0 q1 q2
  obtain ⟨s4, sg⟩ := set3 T4 (.slice A n c) (.int .i64 ((de l).1.at_ : Int)) (.int .i64 (de l).1.err)
  have H4_4 := Lib.hid s4
  have H2_4 := Lib.hid ((sg.block w.heap.size (by have := Hs_a.out; omega) (by simp)).trans T2)
  have Hr_4 := Lib.hid (Hr_a.out.grown sg (by have := Hs_a.out; omega) (fun g hg => by cases hg; omega))
  have Hw_4 := Lib.hid (below_gr Hw_a.out sg (by omega))
  have Hs_4 := Lib.hid (Nat.lt_of_lt_of_le Hs_a.out sg.size)
  clear hbu T2 T4 s4 sg
  generalize hv4 : (de l).2 = v4 at *
  have V4 := Lib.hid hv4; clear hv4
  go_wp2_with fail
  generalize ((u4.setCell ⟨w.heap.size + 1, 0, none⟩ (.slice A n c)).setCell ⟨w.heap.size + 1, 1, none⟩ (.int .i64 ((de l).1.at_ : Int))).setCell ⟨w.heap.size + 1, 2, none⟩ (.int .i64 (de l).1.err) = x4 at *
  clear q0 q1 q2 qf Hr_a Hw_a Hs_a
  refine (some_at A n c _ (de l).1 x4 (by rw [F4.out]; exact Hr_4.out.more (by have := Hs_4.out; omega)) hnc (by omega) G4 (by rw [F4.out]; exact Hb.out) (by omega) (by omega)).mono ?_
  rintro e u5 ⟨A5, n5, c5, rfl, ho, hnl, hbu⟩
  rw [show (32768 : Int).toNat = 32768 from rfl, E5.out] at ho hnl
  rw [show (32768 : Int).toNat = 32768 from rfl, E5.out]
  have Ho5_a := Lib.hid ho; have Hnl5 := Lib.hid hnl
  clear ho hnl
  have T2 := block_below H2_4.out hbu (by have := Hs_4.out; omega)
  have T4 := block_below H4_4.out hbu Hs_4.out
  have Hr_a := Lib.hid (Hr_4.out.below hbu (by have := Hs_4.out; omega))
  have Hw_a := Lib.hid (Hw_4.out.trans (hbu.mono Hw_4.out.size))
  have Hs_a := Lib.hid (Nat.lt_of_lt_of_le Hs_4.out hbu.size)
  have q0 := block_cell T4 0; have q1 := block_cell T4 1; have q2 := block_cell T4 2; have qf := block_free T4
  simp at q0 q1 q2
  obtain ⟨s4, sg⟩ := set3 T4 (.slice A n c) (.int .i64 ((db l).1.at_ : Int)) (.int .i64 (db l).1.err)
  have H4_5 := Lib.hid s4
  have H2_5 := Lib.hid ((sg.block w.heap.size (by have := Hs_a.out; omega) (by simp)).trans T2)
  have Hr_5 := Lib.hid (Hr_a.out.grown sg (by have := Hs_a.out; omega) (fun g hg => by cases hg; omega))
  have Hw_5 := Lib.hid (below_gr Hw_a.out sg (by omega))
  have Hs_5 := Lib.hid (Nat.lt_of_lt_of_le Hs_a.out sg.size)
  have Ho5_5 := Lib.hid (own_grown Ho5_a.out sg Hs_4.out)
  clear hbu T2 T4 s4 sg
  go_wp2_with fail
  generalize ((u5.setCell ⟨w.heap.size + 1, 0, none⟩ (.slice A n c)).setCell ⟨w.heap.size + 1, 1, none⟩ (.int .i64 ((db l).1.at_ : Int))).setCell ⟨w.heap.size + 1, 2, none⟩ (.int .i64 (db l).1.err) = x5 at *
  clear q0 q1 q2 qf Hr_a Hw_a Hs_a
  refine (some_at A n c _ (db l).1 x5 (by rw [F5.out]; exact Hr_5.out.more (by have := Hs_5.out; omega)) hnc (by omega) G5 (by rw [F5.out]; exact Hb.out) (by omega) (by omega)).mono ?_
  rintro e u6 ⟨A6, n6, c6, rfl, ho, hnl, hbu⟩
  rw [show (1024 : Int).toNat = 1024 from rfl, E6.out] at ho hnl
  rw [show (1024 : Int).toNat = 1024 from rfl, E6.out]
  have Ho6_a := Lib.hid ho; have Hnl6 := Lib.hid hnl
  have Ho5_b := Lib.hid (own_below Ho5_5.out hbu)
  clear ho hnl
  have T2 := block_below H2_5.out hbu (by have := Hs_5.out; omega)
  have T4 := block_below H4_5.out hbu Hs_5.out
  have Hr_a := Lib.hid (Hr_5.out.below hbu (by have := Hs_5.out; omega))
  have Hw_a := Lib.hid (Hw_5.out.trans (hbu.mono Hw_5.out.size))
  have Hs_a := Lib.hid (Nat.lt_of_lt_of_le Hs_5.out hbu.size)
  have q0 := block_cell T4 0; have q1 := block_cell T4 1; have q2 := block_cell T4 2; have qf := block_free T4
  simp at q0 q1 q2
  obtain ⟨s4, sg⟩ := set3 T4 (.slice A n c) (.int .i64 ((ds l).1.at_ : Int)) (.int .i64 (ds l).1.err)
  have H4_6 := Lib.hid s4
  have H2_6 := Lib.hid ((sg.block w.heap.size (by have := Hs_a.out; omega) (by simp)).trans T2)
  have Hr_6 := Lib.hid (Hr_a.out.grown sg (by have := Hs_a.out; omega) (fun g hg => by cases hg; omega))
  have Hw_6 := Lib.hid (below_gr Hw_a.out sg (by omega))
  have Hs_6 := Lib.hid (Nat.lt_of_lt_of_le Hs_a.out sg.size)
  have Ho5_6 := Lib.hid (own_grown Ho5_b.out sg Hs_4.out)
  have Ho6_6 := Lib.hid (own_grown Ho6_a.out sg Hs_5.out)
  clear hbu T2 T4 s4 sg
  go_wp2_with fail
  generalize ((u6.setCell ⟨w.heap.size + 1, 0, none⟩ (.slice A n c)).setCell ⟨w.heap.size + 1, 1, none⟩ (.int .i64 ((ds l).1.at_ : Int))).setCell ⟨w.heap.size + 1, 2, none⟩ (.int .i64 (ds l).1.err) = x6 at *
  clear q0 q1 q2 qf Hr_a Hw_a Hs_a
  refine (endr_any A n c (ds l).1 x6 (by rw [F6.out]; exact Hln.out)).mono ?_
  rintro e x7 ⟨rfl, hb7⟩
  have hs6 := Hs_6.out
  have H2_7 := Lib.hid (block_below H2_6.out hb7 (by omega))
  have Hw_7 := Lib.hid (Hw_6.out.trans (hb7.mono Hw_6.out.size))
  have Ho5_7 := Lib.hid (own_below Ho5_6.out hb7)
  have Ho6_7 := Lib.hid (own_below Ho6_6.out hb7)
  have hs7 : w.heap.size + 1 < x7.heap.size := Nat.lt_of_lt_of_le hs6 hb7.size
  clear hb7
  have hb1 : (v1 : Int) ≤ 2 := by omega
  have hb3 : (v3 : Int) ≤ 1099511627776 := by omega
  have hb4 : (v4 : Int) ≤ 1125899906842624 := by omega
  by_cases he : endRS (ds l).1 = 0
  · have b1 : (endRS (ds l).1 != 0) = false := by simpa using he
    rw [if_pos he] at Hderr
    clear he
    go_wp2_with fail
    refine (rfrom_any v2 x7 (by omega)).mono ?_
    rintro e x8 ⟨rfl, hb8⟩
    have H2_8 := Lib.hid (show (x8.alloc (.cells #[.int .u8 ((D8.of v2).x0 : Int), .int .u8 ((D8.of v2).x1 : Int), .int .u8 ((D8.of v2).x2 : Int), .int .u8 ((D8.of v2).x3 : Int), .int .u8 ((D8.of v2).x4 : Int), .int .u8 ((D8.of v2).x5 : Int), .int .u8 ((D8.of v2).x6 : Int), .int .u8 ((D8.of v2).x7 : Int), .int .i64 (v3 : Int), .int .i64 (v4 : Int), .int .i64 (v1 : Int), .slice A5 n5 c5, .slice A6 n6 c6] 34)).heap[w.heap.size]? = some (.cells #[.int .u8 0, .int .u8 0, .int .u8 0, .int .u8 0, .int .u8 0, .int .u8 0, .int .u8 0, .int .u8 0, .int .i64 0, .int .i64 0, .int .i64 0, .slice none 0 0, .slice none 0 0] 34 (0, 0)) from block_alloc (block_below H2_7.out hb8 (by omega)) _)
    have H12 := Lib.hid (heap_alloc_new x8 (.cells #[.int .u8 ((D8.of v2).x0 : Int), .int .u8 ((D8.of v2).x1 : Int), .int .u8 ((D8.of v2).x2 : Int), .int .u8 ((D8.of v2).x3 : Int), .int .u8 ((D8.of v2).x4 : Int), .int .u8 ((D8.of v2).x5 : Int), .int .u8 ((D8.of v2).x6 : Int), .int .u8 ((D8.of v2).x7 : Int), .int .i64 (v3 : Int), .int .i64 (v4 : Int), .int .i64 (v1 : Int), .slice A5 n5 c5, .slice A6 n6 c6] 34))
    have Hw_8 := Lib.hid (((Hw_7.out.trans (hb8.mono Hw_7.out.size))).alloc (Hw_7.out.trans (hb8.mono Hw_7.out.size)).size (.cells #[.int .u8 ((D8.of v2).x0 : Int), .int .u8 ((D8.of v2).x1 : Int), .int .u8 ((D8.of v2).x2 : Int), .int .u8 ((D8.of v2).x3 : Int), .int .u8 ((D8.of v2).x4 : Int), .int .u8 ((D8.of v2).x5 : Int), .int .u8 ((D8.of v2).x6 : Int), .int .u8 ((D8.of v2).x7 : Int), .int .i64 (v3 : Int), .int .i64 (v4 : Int), .int .i64 (v1 : Int), .slice A5 n5 c5, .slice A6 n6 c6] 34))
    have Ho5_8 := Lib.hid ((own_below Ho5_7.out hb8).alloc (.cells #[.int .u8 ((D8.of v2).x0 : Int), .int .u8 ((D8.of v2).x1 : Int), .int .u8 ((D8.of v2).x2 : Int), .int .u8 ((D8.of v2).x3 : Int), .int .u8 ((D8.of v2).x4 : Int), .int .u8 ((D8.of v2).x5 : Int), .int .u8 ((D8.of v2).x6 : Int), .int .u8 ((D8.of v2).x7 : Int), .int .i64 (v3 : Int), .int .i64 (v4 : Int), .int .i64 (v1 : Int), .slice A5 n5 c5, .slice A6 n6 c6] 34))
    have Ho6_8 := Lib.hid ((own_below Ho6_7.out hb8).alloc (.cells #[.int .u8 ((D8.of v2).x0 : Int), .int .u8 ((D8.of v2).x1 : Int), .int .u8 ((D8.of v2).x2 : Int), .int .u8 ((D8.of v2).x3 : Int), .int .u8 ((D8.of v2).x4 : Int), .int .u8 ((D8.of v2).x5 : Int), .int .u8 ((D8.of v2).x6 : Int), .int .u8 ((D8.of v2).x7 : Int), .int .i64 (v3 : Int), .int .i64 (v4 : Int), .int .i64 (v1 : Int), .slice A5 n5 c5, .slice A6 n6 c6] 34))
    have hs8 : w.heap.size + 1 < x8.heap.size := Nat.lt_of_lt_of_le hs7 hb8.size
    clear hb8
    have hat8 : TxV.At ⟨D8.of v2, (v3 : Int), (v4 : Int), (v1 : Int), A5, n5, c5, A6, n6, c6, (db l).2, (ds l).2⟩ (x8.alloc (.cells #[.int .u8 ((D8.of v2).x0 : Int), .int .u8 ((D8.of v2).x1 : Int), .int .u8 ((D8.of v2).x2 : Int), .int .u8 ((D8.of v2).x3 : Int), .int .u8 ((D8.of v2).x4 : Int), .int .u8 ((D8.of v2).x5 : Int), .int .u8 ((D8.of v2).x6 : Int), .int .u8 ((D8.of v2).x7 : Int), .int .i64 (v3 : Int), .int .i64 (v4 : Int), .int .i64 (v1 : Int), .slice A5 n5 c5, .slice A6 n6 c6] 34)) :=
      ⟨D8.of_ok v2, Rd.of_own Ho5_8.out, Rd.of_own Ho6_8.out, own_cap Ho5_8.out, own_cap Ho6_8.out, N5.out, N6.out, by have := Hnl5.out; have := M5.out; simp only; omega, by have := Hnl6.out; have := M6.out; simp only; omega⟩
    have Hat8 := Lib.hid hat8
    clear hat8
    go_wp2_with fail
    refine (checkr_any ⟨D8.of v2, (v3 : Int), (v4 : Int), (v1 : Int), A5, n5, c5, A6, n6, c6, (db l).2, (ds l).2⟩ _ Hat8.out).mono ?_
    rintro e x9 ⟨rfl, hb9⟩
    have H2_9 := Lib.hid (block_below H2_8.out hb9 (by simp; omega))
    have H12_9 := Lib.hid (block_below H12.out hb9 (by simp))
    have Hw_9 := Lib.hid (Hw_8.out.trans (hb9.mono Hw_8.out.size))
    have Ho5_9 := Lib.hid (own_below Ho5_8.out hb9)
    have Ho6_9 := Lib.hid (own_below Ho6_8.out hb9)
    have hk4 := Hs_4.out; have hk5 := Hs_5.out
    clear hb9
    have y := block_cell H2_9.out
    have y0 := y 0; have y1 := y 1; have y2 := y 2; have y3 := y 3; have y4 := y 4; have y5 := y 5; have y6 := y 6; have y7 := y 7; have y8 := y 8; have y9 := y 9; have y10 := y 10; have y11 := y 11; have y12 := y 12
    have yf := block_free H2_9.out
    simp at y0 y1 y2 y3 y4 y5 y6 y7 y8 y9 y10 y11 y12
    clear y
    simp only at Hderr ⊢
    by_cases hc : checkT (v3 : Int) (v4 : Int) (v1 : Int) (db l).2 (ds l).2 = 0
    · have b2 : (checkT (v3 : Int) (v4 : Int) (v1 : Int) (db l).2 (ds l).2 != 0) = false := by simpa using hc
      rw [hc] at Hderr
      rw [Hderr.out, if_pos rfl] at Hdec
      clear hc
      have z := block_cell H12_9.out
      have z0 := z 0; have z1 := z 1; have z2 := z 2; have z3 := z 3; have z4 := z 4; have z5 := z 5; have z6 := z 6; have z7 := z 7; have z8 := z 8; have z9 := z 9; have z10 := z 10; have z11 := z 11; have z12 := z 12
      simp at z0 z1 z2 z3 z4 z5 z6 z7 z8 z9 z10 z11 z12
      clear z
      go_wp2
      refine bodyPost_ret (v := .tuple #[.agg #[.int .u8 ((D8.of v2).x0 : Int), .int .u8 ((D8.of v2).x1 : Int), .int .u8 ((D8.of v2).x2 : Int), .int .u8 ((D8.of v2).x3 : Int), .int .u8 ((D8.of v2).x4 : Int), .int .u8 ((D8.of v2).x5 : Int), .int .u8 ((D8.of v2).x6 : Int), .int .u8 ((D8.of v2).x7 : Int), .int .i64 (v3 : Int), .int .i64 (v4 : Int), .int .i64 (v1 : Int), .slice A5 n5 c5, .slice A6 n6 c6], .int .i64 0]) (by simp [results, Try.results24, go_sem, y0, y1, y2, y3, y4, y5, y6, y7, y8, y9, y10, y11, y12]) rfl
        ⟨⟨D8.of v2, (v3 : Int), (v4 : Int), (v1 : Int), A5, n5, c5, A6, n6, c6, (db l).2, (ds l).2⟩, by rw [Hderr.out], by rw [Hdec.out]; exact ⟨rfl, rfl, rfl, rfl, rfl, rfl⟩, ?_, ?_⟩
      · refine ⟨D8.of_ok v2, Rd.of_own (base := x4.heap.size) (e := 5) (n := n5) (c := c5) ?_, Rd.of_own (base := x5.heap.size) (e := 5) (n := n6) (c := c6) ?_, own_cap Ho5_9.out, own_cap Ho6_9.out, N5.out, N6.out, by have := Hnl5.out; have := M5.out; simp only; omega, by have := Hnl6.out; have := M6.out; simp only; omega⟩
        · repeat refine ownsRow_setCell_below ?_ (by show w.heap.size < _; omega) _
          exact Ho5_9.out
        · repeat refine ownsRow_setCell_below ?_ (by show w.heap.size < _; omega) _
          exact Ho6_9.out
      · exact ((((((((((((((Hw_9.out).setCell (by simp) _).setCell (by simp) _).setCell (by simp) _).setCell (by simp) _).setCell (by simp) _).setCell (by simp) _).setCell (by simp) _).setCell (by simp) _).setCell (by simp) _).setCell (by simp) _).setCell (by simp) _).setCell (by simp) _).setCell (by simp) _)
    · have b2 : (checkT (v3 : Int) (v4 : Int) (v1 : Int) (db l).2 (ds l).2 != 0) = true := by simpa using hc
      have hne : derr l ≠ 0 := by rw [Hderr.out]; exact hc
      rw [if_neg hne] at Hdec
      clear hc hne
      go_wp2
      refine bodyPost_ret (v := .tuple #[.agg #[.int .u8 0, .int .u8 0, .int .u8 0, .int .u8 0, .int .u8 0, .int .u8 0, .int .u8 0, .int .u8 0, .int .i64 0, .int .i64 0, .int .i64 0, .slice none 0 0, .slice none 0 0], .int .i64 (checkT (v3 : Int) (v4 : Int) (v1 : Int) (db l).2 (ds l).2)]) (by simp [results, Try.results24, go_sem, y0, y1, y2, y3, y4, y5, y6, y7, y8, y9, y10, y11, y12]) rfl
        ⟨⟨d0, 0, 0, 0, none, 0, 0, none, 0, 0, [], []⟩, by rw [Hderr.out]; rfl, by rw [Hdec.out]; exact ⟨rfl, rfl, rfl, rfl, rfl, rfl⟩, at0 _, ?_⟩
      exact ((((((((((((((Hw_9.out).setCell (by simp) _).setCell (by simp) _).setCell (by simp) _).setCell (by simp) _).setCell (by simp) _).setCell (by simp) _).setCell (by simp) _).setCell (by simp) _).setCell (by simp) _).setCell (by simp) _).setCell (by simp) _).setCell (by simp) _).setCell (by simp) _)
  · have b1 : (endRS (ds l).1 != 0) = true := by simpa using he
    rw [if_neg he] at Hderr
    have hne : derr l ≠ 0 := by rw [Hderr.out]; exact he
    rw [if_neg hne] at Hdec
    have y := block_cell H2_7.out
    have y0 := y 0; have y1 := y 1; have y2 := y 2; have y3 := y 3; have y4 := y 4; have y5 := y 5; have y6 := y 6; have y7 := y 7; have y8 := y 8; have y9 := y 9; have y10 := y 10; have y11 := y 11; have y12 := y 12
    have yf := block_free H2_7.out
    simp at y0 y1 y2 y3 y4 y5 y6 y7 y8 y9 y10 y11 y12
    clear y
    clear he hne
    go_wp2
    refine bodyPost_ret (v := .tuple #[.agg #[.int .u8 0, .int .u8 0, .int .u8 0, .int .u8 0, .int .u8 0, .int .u8 0, .int .u8 0, .int .u8 0, .int .i64 0, .int .i64 0, .int .i64 0, .slice none 0 0, .slice none 0 0], .int .i64 (endRS (ds l).1)]) (by simp [results, Try.results24, go_sem, y0, y1, y2, y3, y4, y5, y6, y7, y8, y9, y10, y11, y12]) rfl
      ⟨⟨d0, 0, 0, 0, none, 0, 0, none, 0, 0, [], []⟩, by rw [Hderr.out]; rfl, by rw [Hdec.out]; exact ⟨rfl, rfl, rfl, rfl, rfl, rfl⟩, at0 _, ?_⟩
    exact ((((((((((((((Hw_7.out).setCell (by simp) _).setCell (by simp) _).setCell (by simp) _).setCell (by simp) _).setCell (by simp) _).setCell (by simp) _).setCell (by simp) _).setCell (by simp) _).setCell (by simp) _).setCell (by simp) _).setCell (by simp) _).setCell (by simp) _).setCell (by simp) _)
end Go.Proofs.Ytebepgoaofhelaa
