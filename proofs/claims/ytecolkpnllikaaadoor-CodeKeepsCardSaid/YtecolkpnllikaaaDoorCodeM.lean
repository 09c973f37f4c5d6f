/- The walks of layer 1's Int, and of layer 14's read: one instruction read of bytes. Condition: the table of operations reads as laid. -/
import Derived.Test.YtecolkpnllikaaaDoorCodeL
namespace Go.Proofs.YtecolkpnllikaaaDoor
open Go.RowKit Go.Lib
theorem below_one (w : World) (a : Obj) : Below w.heap.size w (w.alloc a) := (Below.refl _ _).alloc (Nat.le_refl _) _
theorem num_at (b : Nat) (mo : Int) (s : RS) (w : World) (h : RdAt w b s) (h0 : 0 ≤ mo) :
    Calls Tryd.prog 48 #[.pointer (some ⟨b, 0, none⟩), .int .u64 mo] w fun e w' => e = .returned (.int .u64 ((numRS s mo.toNat).2 : Int)) ∧ RdAt w' b (numRS s mo.toNat).1 ∧ w.grownBy w' (some b) := by
  obtain ⟨m, rfl⟩ := Int.eq_ofNat_of_zero_le h0
  exact num_any b m s w h
theorem and_one {n : Nat} (h : n < 18446744073709551616) : bits BinOp.and IntKind.u64 (n : Int) 1 = ((n % 2 : Nat) : Int) := by
  have := bits_and_u64_nat n 1 h (by omega)
  rw [Nat.and_one_is_mod] at this
  simpa using this
theorem grown_at {w w' w'' : World} {r : Option Nat} {q : Nat} (h : w.grownBy w' r) (h2 : w'.grownBy w'' (some q)) (hq : w.heap.size ≤ q) : w.grownBy w'' r :=
  ⟨h2.os.trans h.os, h2.tape.trans h.tape, h2.output.trans h.output, Nat.le_trans h.size h2.size, fun k hk hne => (h2.block k (by have := h.size; omega) (by intro e; injection e with e; omega)).trans (h.block k hk hne)⟩
set_option maxRecDepth 100000 in
set_option maxHeartbeats 1000000 in
theorem int_any (b : Nat) (s : RS) (w : World) (h : RdAt w b s) :
    Calls Tryd.prog 69 #[.pointer (some ⟨b, 0, none⟩)] w fun e w' => e = .returned (.int .i64 (intRS s).2) ∧ RdAt w' b (intRS s).1 ∧ w.grownBy w' (some b) := by
  have hle := numRS_le s 18446744073709551615
  have H := Lib.hid h
  have Hi : Hid (intRS s = ((numRS s 18446744073709551615).1, unfoldN (numRS s 18446744073709551615).2)) := Lib.hid rfl
  clear h
  go_enter Tryd.func69, Tryd.ntmps69
  go_wp2_with fail
  refine (num_at b _ s w H.out (by omega)).mono ?_
  rintro e w1 ⟨rfl, hat, hg⟩
  rw [show (18446744073709551615 : Int).toNat = 18446744073709551615 from rfl] at hat
  rw [show (18446744073709551615 : Int).toNat = 18446744073709551615 from rfl]
  have Hat := Lib.hid hat; have Hg := Lib.hid hg
  clear hat hg
  generalize numRS s 18446744073709551615 = p at *
  obtain ⟨s1, v⟩ := p
  simp only at hle Hi Hat ⊢
  have hv : v < 18446744073709551616 := by omega
  by_cases hodd : v % 2 = 1
  · have ha : bits BinOp.and IntKind.u64 (v : Int) 1 = 1 := by rw [and_one hv, hodd]; rfl
    have hx : bits .xor .i64 (-1) ((v : Int) / 2) = unfoldN v := by
      rw [show ((v : Int) / 2) = ((v / 2 : Nat) : Int) by omega]
      have h2 : ((v / 2 : Nat) : Int) < 9223372036854775808 := by omega
      generalize hq : ((v / 2 : Nat) : Int) = q at *
      have h3 : bits .xor .i64 (-1) q = -q - 1 := by
        show IntKind.i64.wrap ((BitVec.ofInt 64 (-1) ^^^ BitVec.ofInt 64 q).toNat : Int) = _
        have h1 : BitVec.ofInt 64 (-1) = BitVec.allOnes 64 := by decide
        have h3 : (BitVec.ofInt 64 q).toNat = q.toNat := by
          rw [BitVec.toNat_ofInt]; congr 1; omega
        rw [h1, BitVec.allOnes_xor, BitVec.toNat_not, h3]
        simp [IntKind.wrap, IntKind.bits, IntKind.signed]
        omega
      rw [h3]; unfold unfoldN; rw [if_pos hodd, hq]
    have Hx := Lib.hid hx
    clear hx
    go_wp2
    go_ret
    exact ⟨ret_int (by rw [Hx.out, Hi.out]), by rw [Hi.out]; exact Hat.out, Hg.out⟩
  · have ha : bits BinOp.and IntKind.u64 (v : Int) 1 = 0 := by rw [and_one hv]; omega
    have hx : ((v : Int) / 2) = unfoldN v := by unfold unfoldN; rw [if_neg hodd]; omega
    have Hx := Lib.hid hx
    clear hx
    go_wp2
    go_ret
    exact ⟨ret_int (by rw [Hx.out, Hi.out]), by rw [Hi.out]; exact Hat.out, Hg.out⟩
theorem argsS_op (s : RS) (i : Ins) (j : Nat) : (argsS s i j).2.op = i.op := by
  induction j with
  | zero => rfl
  | succ j ih =>
    rw [argsS]
    unfold argS
    split
    · exact ih
    · simp only
      unfold putI
      split
      · exact ih
      · split <;> exact ih
/-- The instruction handed back. -/
def gotI (s : RS) : Ins := if (insS s).1.err = 0 then (insS s).2 else ⟨0, 0, 0, 0⟩
def GivesI (b : Nat) (s : RS) (w : World) (e : Ending) (w' : World) : Prop :=
  e = .returned (.tuple #[.agg #[.int .i64 (gotI s).op, .int .i64 (gotI s).a, .int .i64 (gotI s).b, .int .i64 (gotI s).c], .int .i64 (insS s).1.err]) ∧ w.grownBy w' (some b) ∧ ((insS s).1.err = 0 → RdAt w' b (insS s).1)
theorem set_args {w : World} {q j : Nat} {i : Ins} {n : Int} (h : w.heap[q]? = some (.cells #[.int .i64 i.a, .int .i64 i.b, .int .i64 i.c] 67)) (hj : j < 3) :
    (w.setCell ⟨q, j, none⟩ (.int .i64 n)).heap[q]? = some (.cells #[.int .i64 (putI i j n).a, .int .i64 (putI i j n).b, .int .i64 (putI i j n).c] 67) := by
  have := Joins.block_setCell (i := j) h (.int .i64 n)
  match j, hj with
  | 0, _ => simpa [putI] using this
  | 1, _ => simpa [putI] using this
  | 2, _ => simpa [putI] using this
theorem set4 {w : World} {q : Nat} {a b c d : Int} {t : TypeId} (h : w.heap[q]? = some (.cells #[.int .i64 a, .int .i64 b, .int .i64 c, .int .i64 d] t)) (a' b' c' d' : Int) :
    ((((w.setCell ⟨q, 0, none⟩ (.int .i64 a')).setCell ⟨q, 1, none⟩ (.int .i64 b')).setCell ⟨q, 2, none⟩ (.int .i64 c')).setCell ⟨q, 3, none⟩ (.int .i64 d')).heap[q]? = some (.cells #[.int .i64 a', .int .i64 b', .int .i64 c', .int .i64 d'] t) ∧
    w.grownBy ((((w.setCell ⟨q, 0, none⟩ (.int .i64 a')).setCell ⟨q, 1, none⟩ (.int .i64 b')).setCell ⟨q, 2, none⟩ (.int .i64 c')).setCell ⟨q, 3, none⟩ (.int .i64 d')) (some q) := by
  have := Joins.block_setCell (i := 3) (Joins.block_setCell (i := 2) (Joins.block_setCell (i := 1) (Joins.block_setCell (i := 0) h (.int .i64 a')) (.int .i64 b')) (.int .i64 c')) (.int .i64 d')
  exact ⟨by simpa using this, grown_trans (grown_trans (grown_trans (grown_set _ _ _) (grown_set _ _ _)) (grown_set _ _ _)) (grown_set _ _ _)⟩
theorem keep3 {w : World} {q p i : Nat} {a b c v : Value} (h : w.cell? ⟨q, 0, none⟩ = some a ∧ w.cell? ⟨q, 1, none⟩ = some b ∧ w.cell? ⟨q, 2, none⟩ = some c) (hne : q ≠ p) :
    (w.setCell ⟨p, i, none⟩ v).cell? ⟨q, 0, none⟩ = some a ∧ (w.setCell ⟨p, i, none⟩ v).cell? ⟨q, 1, none⟩ = some b ∧ (w.setCell ⟨p, i, none⟩ v).cell? ⟨q, 2, none⟩ = some c := by
  have hk := Below.heap_setCell w ⟨p, i, none⟩ v q hne
  exact ⟨(World.cell?_of_block hk).trans h.1, (World.cell?_of_block hk).trans h.2.1, (World.cell?_of_block hk).trans h.2.2⟩
set_option maxRecDepth 100000 in
set_option maxHeartbeats 4000000 in
theorem read_any (b : Nat) (s : RS) (w : World) (hT : OpTab w) (h : RdAt w b s) (hb0 : 0 < b) : Calls Tryd.prog 49 #[.pointer (some ⟨b, 0, none⟩)] w (GivesI b s w) := by
  have hbw := h.lt
  have hle := numRS_le s 21
  have H0 := Lib.hid (h.below (below_one w (.cells #[.int .i64 0, .int .i64 0, .int .i64 0, .int .i64 0] 24)) hbw)
  have Z0 := Lib.hid (heap_alloc_new w (.cells #[.int .i64 0, .int .i64 0, .int .i64 0, .int .i64 0] 24))
  have T0 := Lib.hid (hT.alloc (.cells #[.int .i64 0, .int .i64 0, .int .i64 0, .int .i64 0] 24))
  have G0 := Lib.hid (grown_alloc w (.cells #[.int .i64 0, .int .i64 0, .int .i64 0, .int .i64 0] 24) (some b))
  have Hins : Hid (insS s = argsS (numRS s 21).1 ⟨((numRS s 21).2 : Int), 0, 0, 0⟩ (hasOf ((numRS s 21).2 : Int)).size) := Lib.hid rfl
  have Hbad : Hid ((numRS s 21).1.err ≠ 0 → insS s = ((numRS s 21).1, ⟨((numRS s 21).2 : Int), 0, 0, 0⟩)) := Lib.hid insS_err
  have Hgot : Hid (gotI s = if (insS s).1.err = 0 then (insS s).2 else ⟨0, 0, 0, 0⟩) := Lib.hid rfl
  clear h hT
  go_enter Tryd.func49, Tryd.ntmps49
  go_wp2_with fail
  refine (num_at b _ s _ H0.out (by omega)).mono ?_
  rintro e w1 ⟨rfl, hat, hg⟩
  rw [show (21 : Int).toNat = 21 from rfl] at hat
  rw [show (21 : Int).toNat = 21 from rfl]
  have Z1 := Lib.hid (block_grown Z0.out hg (by simp; omega))
  have T1 : Hid (OpTab w1) := ⟨by have := hg.size; simp at this; omega, fun op h0 h1 => ⟨(World.cell?_of_block (hg.block 0 (by simp) (by simp; omega))).trans (T0.out.2 op h0 h1).1, (World.cell?_of_block (hg.block 0 (by simp) (by simp; omega))).trans (T0.out.2 op h0 h1).2⟩⟩
  have G1 := Lib.hid (grown_trans G0.out hg)
  have hs1 : w.heap.size < w1.heap.size := block_lt Z1.out
  generalize numRS s 21 = p at *
  obtain ⟨s1, v⟩ := p
  simp only at hle Hins Hbad hat ⊢
  have H1 := Lib.hid (hat.below (below_one w1 (.cells #[.int .i64 (v : Int), .int .i64 0, .int .i64 0, .int .i64 0] 24)) hat.lt)
  have V1 := Lib.hid (heap_alloc_new w1 (.cells #[.int .i64 (v : Int), .int .i64 0, .int .i64 0, .int .i64 0] 24))
  have Z2 := Lib.hid (block_alloc Z1.out (.cells #[.int .i64 (v : Int), .int .i64 0, .int .i64 0, .int .i64 0] 24))
  have T2 := Lib.hid (T1.out.alloc (.cells #[.int .i64 (v : Int), .int .i64 0, .int .i64 0, .int .i64 0] 24))
  have G2 := Lib.hid (grown_trans G1.out (grown_alloc w1 (.cells #[.int .i64 (v : Int), .int .i64 0, .int .i64 0, .int .i64 0] 24) (some b)))
  clear hat hg
  go_wp2_with fail
  generalize hw2 : w1.alloc (.cells #[.int .i64 (v : Int), .int .i64 0, .int .i64 0, .int .i64 0] 24) = w2 at *
  refine (err_any b s1 w2 H1.out).mono ?_
  rintro e w3 ⟨rfl, rfl⟩
  by_cases he : s1.err = 0
  · have b1 : (s1.err != 0) = false := by simpa using he
    have z0 := block_cell V1.out
    have z := z0 0; have z1 := z0 1; have z2 := z0 2; have z3 := z0 3
    simp at z z1 z2 z3
    clear z0
    have hs2 : w1.heap.size < w2.heap.size := block_lt V1.out
    have hop : (0 : Int) ≤ (v : Int) := by omega
    have hop2 : (v : Int) < 22 := by omega
    have Z3 := Lib.hid (block_alloc Z2.out (.cells #[.int .i64 0, .int .i64 0, .int .i64 0] 67))
    have V3 := Lib.hid (block_alloc V1.out (.cells #[.int .i64 0, .int .i64 0, .int .i64 0] 67))
    have X3 := Lib.hid (heap_alloc_new w2 (.cells #[.int .i64 0, .int .i64 0, .int .i64 0] 67))
    have T3 := Lib.hid (T2.out.alloc (.cells #[.int .i64 0, .int .i64 0, .int .i64 0] 67))
    have H3 := Lib.hid (H1.out.below (below_one w2 (.cells #[.int .i64 0, .int .i64 0, .int .i64 0] 67)) H1.out.lt)
    have G3 := Lib.hid (grown_trans G2.out (grown_alloc w2 (.cells #[.int .i64 0, .int .i64 0, .int .i64 0] 67) (some b)))
    go_wp2_with fail
    refine (has_any _ _ _ _ _ T3.out).mono ?_
    rintro e w4 ⟨rfl, hb4⟩
    have Z4 := Lib.hid (block_below Z3.out hb4 (by simp; omega))
    have V4 := Lib.hid (block_below V3.out hb4 (by simp; omega))
    have X4 := Lib.hid (block_below X3.out hb4 (by simp))
    have H4 := Lib.hid (H3.out.below hb4 (by simp; omega))
    have G4 := Lib.hid (grown_trans G3.out (grown_of_below hb4 (r := some b)))
    have hs4 : w2.heap.size < w4.heap.size := block_lt X4.out
    have hps := hasOf_size (v : Int)
    clear hb4 z z1 z2 z3
    have hbb : b < w4.heap.size := by omega
    have H5 : Hid (RdAt (w4.iter (hasOf (v : Int)) 0) b s1) := Lib.hid (H4.out.below ((Below.refl w4.heap.size w4).alloc (Nat.le_refl _) (.stringIter (hasOf (v : Int)) 0)) hbb)
    have G5 : Hid (w.grownBy (w4.iter (hasOf (v : Int)) 0) (some b)) := Lib.hid (grown_trans G4.out (grown_alloc w4 (.stringIter (hasOf (v : Int)) 0) (some b)))
    have He0 : Hid ((argsS s1 ⟨(v : Int), 0, 0, 0⟩ 0).1.err = 0) := Lib.hid he
    go_wp2
    go_loopw [] (fun wr => ∃ j : Nat, j ≤ (hasOf (v : Int)).size ∧ wr.heap[w4.heap.size]? = some (.stringIter (hasOf (v : Int)) j) ∧ wr.heap[w.heap.size]? = some (.cells #[.int .i64 0, .int .i64 0, .int .i64 0, .int .i64 0] 24) ∧ wr.heap[w1.heap.size]? = some (.cells #[.int .i64 (v : Int), .int .i64 0, .int .i64 0, .int .i64 0] 24) ∧
        wr.heap[w2.heap.size]? = some (.cells #[.int .i64 (argsS s1 ⟨(v : Int), 0, 0, 0⟩ j).2.a, .int .i64 (argsS s1 ⟨(v : Int), 0, 0, 0⟩ j).2.b, .int .i64 (argsS s1 ⟨(v : Int), 0, 0, 0⟩ j).2.c] 67) ∧ (argsS s1 ⟨(v : Int), 0, 0, 0⟩ j).1.err = 0 ∧ RdAt wr b (argsS s1 ⟨(v : Int), 0, 0, 0⟩ j).1 ∧ w.grownBy wr (some b))
      (fun wr => (hasOf (v : Int)).size - wr.iterPos w4.heap.size)
    case atStart => exact ⟨0, Nat.zero_le _, World.iter_heap _ _ _, block_iter Z4.out _ _, block_iter V4.out _ _, block_iter X4.out _ _, He0.out, H5.out, G5.out⟩
    case round =>
      obtain ⟨j, hj, hit, hz, hv, hx, her, hat, hg⟩ := hrel
      have hswq : w4.heap.size < wr.heap.size := block_lt hit
      have Hpos := Lib.hid (iterPos_of hit)
      have hargs : argsS s1 ⟨(v : Int), 0, 0, 0⟩ (j + 1) = argS (argsS s1 ⟨(v : Int), 0, 0, 0⟩ j).1 j (argsS s1 ⟨(v : Int), 0, 0, 0⟩ j).2 := rfl
      have harg : argS (argsS s1 ⟨(v : Int), 0, 0, 0⟩ j).1 j (argsS s1 ⟨(v : Int), 0, 0, 0⟩ j).2 = (if (intRS (argsS s1 ⟨(v : Int), 0, 0, 0⟩ j).1).1.err = 0 ∧ inR (intRS (argsS s1 ⟨(v : Int), 0, 0, 0⟩ j).1).2 = false then ⟨(intRS (argsS s1 ⟨(v : Int), 0, 0, 0⟩ j).1).1.l, (intRS (argsS s1 ⟨(v : Int), 0, 0, 0⟩ j).1).1.at_, 2⟩ else (intRS (argsS s1 ⟨(v : Int), 0, 0, 0⟩ j).1).1, putI (argsS s1 ⟨(v : Int), 0, 0, 0⟩ j).2 j (intRS (argsS s1 ⟨(v : Int), 0, 0, 0⟩ j).1).2) := by unfold argS; rw [if_neg (by simpa using her)]
      rw [harg] at hargs
      have hend := argsS_err (s := s1) (i := ⟨(v : Int), 0, 0, 0⟩) (j := j + 1)
      have hopj : (argsS s1 ⟨(v : Int), 0, 0, 0⟩ j).2.op = (v : Int) := argsS_op _ _ _
      clear harg
      have Hargs := Lib.hid hargs; have Hend := Lib.hid hend; have Hz := Lib.hid hz; have Hv := Lib.hid hv; have Hx := Lib.hid hx; have Hat := Lib.hid hat; have Hg := Lib.hid hg; have Her := Lib.hid her
      have Hopj := Lib.hid hopj
      have hbq : b ≠ w4.heap.size := by omega
      clear hargs hend hz hv hx hat hg her hopj
      by_cases hjl : j < (hasOf (v : Int)).size
      · obtain ⟨w7, hrun, hit7, hsz7, hg7⟩ := iter_next (P := Tryd.prog) 0 hit (chr (v : Int) j) (chr_at hjl) (chr_ascii (v : Int) j)
        have Hz7 := Lib.hid (block_grown Hz.out hg7 (by simp; omega))
        have Hv7 := Lib.hid (block_grown Hv.out hg7 (by simp; omega))
        have Hx7 := Lib.hid (block_grown Hx.out hg7 (by simp; omega))
        have Hat7 := Lib.hid (Hat.out.grown hg7 hbb)
        have Hg7 := Lib.hid (grown_at Hg.out hg7 (by omega))
        have Hit7 := Lib.hid hit7
        have hj3 : j < 3 := by omega
        have hsw7 : w4.heap.size < w7.heap.size := block_lt hit7
        clear hit hg7 hsz7 hit7
        go_wp2_with fail
        refine (int_any b _ w7 Hat7.out).mono ?_
        rintro e w8 ⟨rfl, hat8, hg8⟩
        have Hz8 := Lib.hid (block_grown Hz7.out hg8 (by simp; omega))
        have Hv8 := Lib.hid (block_grown Hv7.out hg8 (by simp; omega))
        have Hx8 := Lib.hid (block_grown Hx7.out hg8 (by simp; omega))
        have Hit8 := Lib.hid (block_grown Hit7.out hg8 (by simp; omega))
        have Hg8 := Lib.hid (grown_trans Hg7.out hg8)
        have Hat8 := Lib.hid hat8
        clear hat8 hg8
        have hsw8 : w4.heap.size < w8.heap.size := block_lt Hit8.out
        generalize hpp : intRS (argsS s1 ⟨(v : Int), 0, 0, 0⟩ j).1 = pp at *
        obtain ⟨s8, x⟩ := pp
        simp only at Hargs Hat8 ⊢
        clear hpp
        go_wp2_with fail
        refine (err_any b _ w8 Hat8.out).mono ?_
        rintro e w9 ⟨rfl, rfl⟩
        have y0 := block_cell Hz8.out
        have y := y0 0; have y1 := y0 1; have y2 := y0 2; have y3 := y0 3
        have yf := block_free Hz8.out
        simp at y y1 y2 y3
        clear y0
        by_cases he8 : s8.err = 0
        · have b8 : (s8.err != 0) = false := by simpa using he8
          by_cases hlo : x < -2147483648
          · have Hbad8 : Hid (inR x = false) := Lib.hid (inR_no (by omega))
            have Hfin : Hid ((insS s).1.err = 2) := by
              show _ = _
              have h1 := Hargs.out
              rw [if_pos ⟨he8, Hbad8.out⟩] at h1
              rw [Hins.out, Hend.out (by rw [h1]; simp) _ hjl, h1]
            go_wp2
            obtain ⟨q1, q2⟩ := set4 Hz8.out 0 0 0 0
            generalize ((((w8.setCell ⟨w.heap.size, 0, none⟩ (.int .i64 0)).setCell ⟨w.heap.size, 1, none⟩ (.int .i64 0)).setCell ⟨w.heap.size, 2, none⟩ (.int .i64 0)).setCell ⟨w.heap.size, 3, none⟩ (.int .i64 0)) = wz at *
            have c := block_cell q1
            have c0 := c 0; have c1 := c 1; have c2 := c 2; have c3 := c 3
            simp at c0 c1 c2 c3
            clear c
            refine bodyPost_ret (v := .tuple #[.agg #[.int .i64 0, .int .i64 0, .int .i64 0, .int .i64 0], .int .i64 2]) (by simp [results, Tryd.results49, go_sem, c0, c1, c2, c3]) rfl ⟨?_, grown_at Hg8.out q2 (Nat.le_refl _), ?_⟩
            skip
            · rw [Hgot.out, if_neg (by rw [Hfin.out]; simp), Hfin.out]
            · intro h; rw [Hfin.out] at h; exact absurd h (by simp)
          · have d1 : decide (x < -2147483648) = false := decide_eq_false hlo
            by_cases hhi : 2147483647 < x
            · have Hbad8 : Hid (inR x = false) := Lib.hid (inR_no (by omega))
              have Hfin : Hid ((insS s).1.err = 2) := by
                show _ = _
                have h1 := Hargs.out
                rw [if_pos ⟨he8, Hbad8.out⟩] at h1
                rw [Hins.out, Hend.out (by rw [h1]; simp) _ hjl, h1]
              go_wp2
              obtain ⟨q1, q2⟩ := set4 Hz8.out 0 0 0 0
              generalize ((((w8.setCell ⟨w.heap.size, 0, none⟩ (.int .i64 0)).setCell ⟨w.heap.size, 1, none⟩ (.int .i64 0)).setCell ⟨w.heap.size, 2, none⟩ (.int .i64 0)).setCell ⟨w.heap.size, 3, none⟩ (.int .i64 0)) = wz at *
              have c := block_cell q1
              have c0 := c 0; have c1 := c 1; have c2 := c 2; have c3 := c 3
              simp at c0 c1 c2 c3
              clear c
              refine bodyPost_ret (v := .tuple #[.agg #[.int .i64 0, .int .i64 0, .int .i64 0, .int .i64 0], .int .i64 2]) (by simp [results, Tryd.results49, go_sem, c0, c1, c2, c3]) rfl ⟨?_, grown_at Hg8.out q2 (Nat.le_refl _), ?_⟩
              skip
              · rw [Hgot.out, if_neg (by rw [Hfin.out]; simp), Hfin.out]
              · intro h; rw [Hfin.out] at h; exact absurd h (by simp)
            · have d2 : decide (2147483647 < x) = false := decide_eq_false hhi
              have Hgood8 : Hid (inR x = true) := Lib.hid (inR_yes (by omega) (by omega))
              have Hnext : Hid (argsS s1 ⟨(v : Int), 0, 0, 0⟩ (j + 1) = (s8, putI (argsS s1 ⟨(v : Int), 0, 0, 0⟩ j).2 j x)) := by
                show _ = _
                have h1 := Hargs.out
                rw [if_neg (fun h => by have := h.2; rw [Hgood8.out] at this; simp at this)] at h1
                exact h1
              have xf := block_free Hx8.out
              have Hx9 := Lib.hid (set_args (n := x) Hx8.out hj3)
              have hgx : w8.grownBy (w8.setCell ⟨w2.heap.size, j, none⟩ (.int .i64 x)) (some w2.heap.size) := grown_set _ _ _
              have Hz9 := Lib.hid (block_grown Hz8.out hgx (by simp; omega))
              have Hv9 := Lib.hid (block_grown Hv8.out hgx (by simp; omega))
              have Hit9 := Lib.hid (block_grown Hit8.out hgx (by simp; omega))
              have Hat9 := Lib.hid (Hat8.out.grown hgx (by omega))
              have Hg9 := Lib.hid (grown_at Hg8.out hgx (by omega))
              have Hpos9 := Lib.hid (iterPos_of Hit9.out)
              have hxc : w8.cell? ⟨w2.heap.size, j, none⟩ = some (.int .i64 (three (argsS s1 ⟨(v : Int), 0, 0, 0⟩ j).2.a (argsS s1 ⟨(v : Int), 0, 0, 0⟩ j).2.b (argsS s1 ⟨(v : Int), 0, 0, 0⟩ j).2.c j)) := by
                rw [block_cell Hx8.out j]
                match j, hj3 with
                | 0, _ => rfl
                | 1, _ => rfl
                | 2, _ => rfl
              have hji0 : (0 : Int) ≤ (j : Int) := by omega
              have hji : (j : Int) < 3 := by omega
              clear y y1 y2 y3 yf hgx
              go_wp2
              go_roundw
              case rel => exact ⟨j + 1, hjl, Hit9.out, Hz9.out, Hv9.out, by rw [Hnext.out]; exact Hx9.out, by rw [Hnext.out]; exact he8, by rw [Hnext.out]; exact Hat9.out, Hg9.out⟩
              case measure => rw [Hpos.out, Hpos9.out]; omega
        · have b8 : (s8.err != 0) = true := by simpa using he8
          have Hfin : Hid (insS s = (s8, putI (argsS s1 ⟨(v : Int), 0, 0, 0⟩ j).2 j x)) := by
            show _ = _
            have h1 := Hargs.out
            rw [if_neg (fun h => he8 h.1)] at h1
            rw [Hins.out, Hend.out (by rw [h1]; exact he8) _ hjl, h1]
          go_wp2
          obtain ⟨q1, q2⟩ := set4 Hz8.out 0 0 0 0
          generalize ((((w8.setCell ⟨w.heap.size, 0, none⟩ (.int .i64 0)).setCell ⟨w.heap.size, 1, none⟩ (.int .i64 0)).setCell ⟨w.heap.size, 2, none⟩ (.int .i64 0)).setCell ⟨w.heap.size, 3, none⟩ (.int .i64 0)) = wz at *
          have c := block_cell q1
          have c0 := c 0; have c1 := c 1; have c2 := c 2; have c3 := c 3
          simp at c0 c1 c2 c3
          clear c
          refine bodyPost_ret (v := .tuple #[.agg #[.int .i64 0, .int .i64 0, .int .i64 0, .int .i64 0], .int .i64 s8.err]) (by simp [results, Tryd.results49, go_sem, c0, c1, c2, c3]) rfl ⟨?_, grown_at Hg8.out q2 (Nat.le_refl _), ?_⟩
          skip
          · rw [Hgot.out, Hfin.out, if_neg he8]
          · intro h; rw [Hfin.out] at h; exact absurd h he8
      · have hje : j = (hasOf (v : Int)).size := by omega
        have hrun := iter_end (P := Tryd.prog) 0 hit (by omega : (hasOf (v : Int)).size ≤ j)
        have Hfin : Hid (insS s = argsS s1 ⟨(v : Int), 0, 0, 0⟩ j) := by
          show _ = _
          rw [Hins.out, hje]
        clear hit hje hjl
        generalize hpq : argsS s1 ⟨(v : Int), 0, 0, 0⟩ j = pq at *
        obtain ⟨s9, op9, a9, b9, c9⟩ := pq
        simp only at Her Hx Hat Hopj Hfin
        have x0 := block_cell Hx.out
        have x1 := x0 0; have x2 := x0 1; have x3 := x0 2
        simp at x1 x2 x3
        have u0 := block_cell Hv.out
        have u1 := u0 0; have u2 := u0 1; have u3 := u0 2; have u4 := u0 3
        have uf := block_free Hv.out
        simp at u1 u2 u3 u4
        have y0 := block_cell Hz.out
        have y := y0 0; have y1 := y0 1; have y2 := y0 2; have y3 := y0 3
        have yf := block_free Hz.out
        simp at y y1 y2 y3
        clear y0 x0 u0
        have hne12 : w2.heap.size ≠ w1.heap.size := by omega
        have K0 := And.intro x1 (And.intro x2 x3)
        go_wp2
        go_region_held3 (fun w' => w'.cell? ⟨w2.heap.size, 0, none⟩ = some (.int .i64 a9) ∧ w'.cell? ⟨w2.heap.size, 1, none⟩ = some (.int .i64 b9) ∧ w'.cell? ⟨w2.heap.size, 2, none⟩ = some (.int .i64 c9)) (first | exact K0 | exact keep3 K0 hne12 | exact keep3 (keep3 K0 hne12) hne12 | exact keep3 (keep3 (keep3 K0 hne12) hne12) hne12 | go_keep) (fail)
        all_goals
          have qv : (((wr.setCell ⟨w1.heap.size, 1, none⟩ (.int .i64 a9)).setCell ⟨w1.heap.size, 2, none⟩ (.int .i64 b9)).setCell ⟨w1.heap.size, 3, none⟩ (.int .i64 c9)).drew.heap[w1.heap.size]? = some (.cells #[.int .i64 (v : Int), .int .i64 a9, .int .i64 b9, .int .i64 c9] 24) := by
            have := Joins.block_setCell (i := 3) (Joins.block_setCell (i := 2) (Joins.block_setCell (i := 1) Hv.out (.int .i64 a9)) (.int .i64 b9)) (.int .i64 c9)
            exact this
          have gv : wr.grownBy (((wr.setCell ⟨w1.heap.size, 1, none⟩ (.int .i64 a9)).setCell ⟨w1.heap.size, 2, none⟩ (.int .i64 b9)).setCell ⟨w1.heap.size, 3, none⟩ (.int .i64 c9)).drew (some w1.heap.size) := grown_drew (grown_trans (grown_trans (grown_set _ _ _) (grown_set _ _ _)) (grown_set _ _ _))
          have Hz9 := Lib.hid (block_grown Hz.out gv (by simp; omega))
          have Hat9 := Lib.hid (Hat.out.grown gv (by omega))
          have Hg9 := Lib.hid (grown_at Hg.out gv (by omega))
          generalize (((wr.setCell ⟨w1.heap.size, 1, none⟩ (.int .i64 a9)).setCell ⟨w1.heap.size, 2, none⟩ (.int .i64 b9)).setCell ⟨w1.heap.size, 3, none⟩ (.int .i64 c9)).drew = wx at *
          have x0 := block_cell qv
          have x1 := x0 0; have x2 := x0 1; have x3 := x0 2; have x4 := x0 3
          simp at x1 x2 x3 x4
          have y0 := block_cell Hz9.out
          have y := y0 0; have y1 := y0 1; have y2 := y0 2; have y3 := y0 3
          have yf := block_free Hz9.out
          simp at y y1 y2 y3
          clear y0 x0
          go_wp2
          obtain ⟨q1, q2⟩ := set4 Hz9.out (v : Int) a9 b9 c9
          generalize ((((wx.setCell ⟨w.heap.size, 0, none⟩ (.int .i64 (v : Int))).setCell ⟨w.heap.size, 1, none⟩ (.int .i64 a9)).setCell ⟨w.heap.size, 2, none⟩ (.int .i64 b9)).setCell ⟨w.heap.size, 3, none⟩ (.int .i64 c9)) = wz at *
          have c := block_cell q1
          have c0 := c 0; have c1 := c 1; have c2 := c 2; have c3 := c 3
          simp at c0 c1 c2 c3
          clear c
          refine bodyPost_ret (v := .tuple #[.agg #[.int .i64 (v : Int), .int .i64 a9, .int .i64 b9, .int .i64 c9], .int .i64 0]) (by simp [results, Tryd.results49, go_sem, c0, c1, c2, c3]) rfl ⟨?_, grown_at Hg9.out q2 (Nat.le_refl _), fun _ => ?_⟩
          · rw [Hgot.out, Hfin.out, if_pos Her.out, Her.out, Hopj.out]
          · rw [Hfin.out]; exact Hat9.out.grown q2 hbw
  · have b1 : (s1.err != 0) = true := by simpa using he
    have y0 := block_cell Z2.out
    have y := y0 0; have y1 := y0 1; have y2 := y0 2; have y3 := y0 3
    have yf := block_free Z2.out
    simp at y y1 y2 y3
    clear y0
    go_wp2
    obtain ⟨q1, q2⟩ := set4 Z2.out 0 0 0 0
    generalize ((((w2.setCell ⟨w.heap.size, 0, none⟩ (.int .i64 0)).setCell ⟨w.heap.size, 1, none⟩ (.int .i64 0)).setCell ⟨w.heap.size, 2, none⟩ (.int .i64 0)).setCell ⟨w.heap.size, 3, none⟩ (.int .i64 0)) = wz at *
    have c := block_cell q1
    have c0 := c 0; have c1 := c 1; have c2 := c 2; have c3 := c 3
    simp at c0 c1 c2 c3
    clear c
    refine bodyPost_ret (v := .tuple #[.agg #[.int .i64 0, .int .i64 0, .int .i64 0, .int .i64 0], .int .i64 s1.err]) (by simp [results, Tryd.results49, go_sem, c0, c1, c2, c3]) rfl ⟨?_, grown_at G2.out q2 (Nat.le_refl _), ?_⟩
    skip
    · rw [Hgot.out, Hbad.out he, if_neg he]
    · intro h; rw [Hbad.out he] at h; exact absurd h he
end Go.Proofs.YtecolkpnllikaaaDoor
