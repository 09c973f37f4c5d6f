/- The walk of List: instructions as a text. Conditions: the tables read as laid; a bound on how many. -/
import Derived.Test.YtecolkpnllikaaaDoorLsO
import Derived.Test.YtecolkpnllikaaaDoorLsB
import Derived.Test.YtecolkpnllikaaaDoorEnc2
import Derived.Lib.AppendIntMem
namespace Go.Proofs.YtecolkpnllikaaaDoor
open Go.RowKit Go.Lib
/-- The table of powers of ten is there. -/
def TabW (w : World) : Prop := 2 < w.heap.size ∧ Lib.TabIs Tryd.prog w "internal/strconv.uint64pow10" .u64 Lib.pow10Tab
theorem TabW.below {w w' : World} {B : Nat} (h : TabW w) (hb : Below B w w') (hB : 2 < B) : TabW w' := by
  refine ⟨Nat.lt_of_lt_of_le h.1 hb.size, ?_⟩
  have h2 := h.2
  unfold Lib.TabIs World.var? at h2 ⊢
  rw [show Tryd.prog.globalNamed "internal/strconv.uint64pow10" = some 2 from by kernel_rfl] at h2 ⊢
  simp only [Option.bind_some] at h2 ⊢
  rw [hb.block 2 hB]
  exact h2
theorem itoa_any (n : Int) (w : World) (h0 : -9223372036854775808 ≤ n) (h1 : n ≤ 9223372036854775807) (hT : TabW w) : Calls Tryd.prog 57 #[.int .i64 n] w fun e w' => e = .returned (.string (byt (itoa n))) ∧ Below w.heap.size w w' := by
  refine (Tryd.strconv_Itoa n h0 h1 w hT.2).mono ?_
  rintro e w' ⟨rfl, k, os, rfl⟩
  exact ⟨rfl, below_grow _ _ (Nat.le_refl _) _ _⟩
theorem own_belowF {w w' : World} {base : Nat} {e : TypeId} {sz n : Nat} {v : Value} {xs : List Value} (h : w.ownsRowF base e sz v n xs) (hb : Below w.heap.size w w') : w'.ownsRowF base e sz v n xs :=
  h.kept (row := none) ⟨hb.os, hb.tape, hb.output, hb.size, fun k hk _ => hb.block k hk⟩ (by cases hv : v.ownBlock <;> simp)
theorem bldAt_below {B b : Nat} {p : Value} {bs : List Value} {w w' : World} (h : Lib.BuilderAtF 100 5 B b p bs w) (hb : Below w.heap.size w w') : Lib.BuilderAtF 100 5 B b p bs w' := by
  obtain ⟨h1, v, h2, h3, h4⟩ := h
  exact ⟨h1, v, block_below h2 hb (block_lt h2), own_belowF h3 hb, h4⟩
/-- A builder that holds a text. -/
def Bld (w : World) (B : Nat) (l : List UInt8) : Prop := Lib.IsBuilderF 100 5 B B (Lib.byteCells l) w
theorem Bld.below {w w' : World} {B : Nat} {l : List UInt8} (h : Bld w B l) (hb : Below w.heap.size w w') : Bld w' B l := h.imp (fun h => bldAt_below h hb) (fun h => bldAt_below h hb)
theorem Bld.size {w : World} {B : Nat} {l : List UInt8} (h : Bld w B l) : B < w.heap.size := by
  rcases h with h | h
  · obtain ⟨_, v, h2, _⟩ := h; exact block_lt h2
  · obtain ⟨_, v, h2, _⟩ := h; exact block_lt h2
theorem bld_new (w : World) : Bld (w.alloc (.cells #[.pointer none, .slice none 0 0] 100)) w.heap.size [] :=
  .inl ⟨Nat.le_refl _, .slice none 0 0, heap_alloc_new w _, World.ownsRowF_nil _ _ _ _, by simp [Value.ownBlock]⟩
theorem Bld.iter {w w' : World} {B k pos : Nat} {s : ByteArray} {l : List UInt8} (h : Bld w B l) (hk : w.heap[k]? = some (.stringIter s pos)) (hg : w.grownBy w' (some k)) : Bld w' B l := by
  have key : ∀ p, Lib.BuilderAtF 100 5 B B p (Lib.byteCells l) w → Lib.BuilderAtF 100 5 B B p (Lib.byteCells l) w' := by
    rintro p ⟨h1, v, h2, h3, h4⟩
    refine ⟨h1, v, block_grown h2 hg (by intro e; injection e with e; rw [e, hk] at h2; simp at h2), h3.kept hg ?_, h4⟩
    rcases h3.2 with ⟨rfl, _⟩ | ⟨g, cap, cur, fz, rfl, hb, hgg, _⟩
    · exact .inl rfl
    · right
      intro e
      have e2 : g = k := by simpa [Value.ownBlock] using e
      rw [e2, hk] at hgg
      simp at hgg
  exact h.imp (key _) (key _)
theorem write_any (B : Nat) (l m : List UInt8) (w : World) (h : Bld w B l) (hl : l.length + m.length ≤ 100000000) :
    Calls Tryd.prog 56 #[.pointer (some ⟨B, 0, none⟩), .string (byt m)] w fun e w' => e = .returned (.tuple #[.int .i64 m.length, .nilIface]) ∧ Bld w' B (l ++ m) ∧ Below B w w' ∧ Lib.OthersKept 5 (some B) w w' := by
  refine (Tryd.bld_WriteString B B _ (byt m) w h (by rw [Lib.byteCells_length, byt_size]; omega) (Nat.le_of_lt h.size)).mono ?_
  rintro e w' ⟨rfl, hB, hb, hk⟩
  refine ⟨by rw [byt_size], ?_, hb, hk⟩
  unfold Bld
  rw [Lib.byteCells_append, show Lib.byteCells m = Lib.strCells (byt m) from by rw [Lib.strCells_eq]; rfl]
  exact .inr hB
/-- A line, up to its first j numbers. -/
def lineT (i : Ins) (j : Nat) : List UInt8 := nameB i.op ++ ((nums i).take j).flatMap (fun n => 32 :: itoa n)
theorem lineT_zero (i : Ins) : lineT i 0 = nameB i.op := by simp [lineT]
theorem lineT_all (i : Ins) {j : Nat} (h : (nums i).length ≤ j) : lineT i j = lineW i := by
  unfold lineT lineW
  rw [List.take_of_length_le h]
theorem lineT_succ (i : Ins) {j : Nat} (h : j < (hasB i.op).length) (h3 : j < 3) : lineT i (j + 1) = lineT i j ++ (32 :: itoa (three i.a i.b i.c j)) := by
  have hj : j < (nums i).length := by unfold nums; simp only [List.length_take, List.length_cons, List.length_nil]; omega
  have e0 : (nums i)[j]? = some (three i.a i.b i.c j) := by
    unfold nums
    rw [List.getElem?_take_of_lt h]
    rcases (by omega : j = 0 ∨ j = 1 ∨ j = 2) with rfl | rfl | rfl <;> rfl
  have e := (List.getElem?_eq_some_iff.1 e0).2
  unfold lineT
  rw [List.take_succ_eq_append_getElem hj, List.flatMap_append, e]
  simp
def listE (l : List Ins) : List UInt8 := if (checkI l 256).2 = 0 then listW l else []
theorem listW_succ {l : List Ins} {k : Nat} (h : k < l.length) : listW (l.take (k + 1)) = listW (l.take k) ++ (lineW (l.getD k default) ++ [10]) := by
  rw [take_ins h]
  unfold listW
  rw [List.flatMap_append]
  simp
set_option maxRecDepth 100000 in
set_option maxHeartbeats 4000000 in
theorem list_any (A : Option Addr) (n c : Nat) (l : List Ins) (w : World) (hT : OpTab w) (hW : TabW w) (hr : Rd w w.heap.size 4 A n (flat l)) (hn : n ≤ 1000000) :
    Calls Tryd.prog 31 #[.slice A n c] w fun e w' => e = .returned (.tuple #[.string (byt (listE l)), .int .i64 (checkI l 256).2]) ∧ Below w.heap.size w w' := by
  have hl : l.length = n := by have := hr.1; rw [flat_len] at this; omega
  have Hl := Lib.hid hl; have Hr := Lib.hid hr; have HT := Lib.hid hT
  have HW := Lib.hid (fun (u : World) (hu : Below w.heap.size w u) => hW.below hu hW.1)
  clear hl hr hT hW
  go_enter Tryd.func31, Tryd.ntmps31
  go_wp2_with fail
  refine (check_any A n c l 256 w HT.out Hr.out hn).mono ?_
  rintro e w1 ⟨rfl, hb1⟩
  have Hb1 := Lib.hid hb1; clear hb1
  by_cases he' : ¬ (checkI l 256).2 = 0
  · have hne : ((checkI l 256).2 != 0) = true := by simpa using he'
    have Hz : Hid (listE l = []) := by show listE l = []; unfold listE; rw [if_neg he']
    clear he'
    go_wp2
    go_ret2
    exact ⟨by rw [Hz.out]; rfl, Hb1.out⟩
  have he : (checkI l 256).2 = 0 := by simpa using he'
  have Hc := Lib.hid (checked he)
  have Hz : Hid (listE l = listW l) := by show _ = _; unfold listE; rw [if_pos he]
  have hn2 : n ≤ 2048 := by have := Hc.out.2.1; have := Hl.out; omega
  have He0 := Lib.hid he
  have Hall := Lib.hid (check_all he)
  rw [he]
  clear he he'
  have HB2 : Hid (Bld (w1.alloc (.cells #[.pointer none, .slice none 0 0] 100)) w1.heap.size (listW (l.take 0))) := bld_new w1
  have Hb2 := Lib.hid (Hb1.out.alloc Hb1.out.size (.cells #[.pointer none, .slice none 0 0] 100))
  go_wp2
  have hgB := Hb1.out.size
  generalize w1.alloc (.cells #[.pointer none, .slice none 0 0] 100) = w2 at *
  generalize w1.heap.size = gB at *
  go_loopw [21] (fun iv wr => ∃ k : Nat, k ≤ n ∧ iv = .int .i64 (k : Int) ∧ Below w.heap.size w wr ∧ Bld wr gB (listW (l.take k))) (fun iv _ => n - (RowKit.intOf iv).toNat)
  case atStart => exact ⟨0, Nat.zero_le _, rfl, Hb2.out, HB2.out⟩
  case round =>
    obtain ⟨wo, rfl⟩ : ∃ wo : World, wo = wr := ⟨_, rfl⟩
    obtain ⟨k, hk, rfl, hbel, hbld⟩ := hrel
    have Hbel := Lib.hid hbel; have HB := Lib.hid hbld
    clear hbld Hb2 HB2
    by_cases hlt : k < n
    · obtain ⟨b, o, rfl, hbB, x0, x1, x2, x3⟩ := (Hr.out.below hbel (Nat.le_refl _)).ins hlt
      have hkl : k < l.length := by rw [Hl.out]; exact hlt
      have hright := Hc.out.2.2 k hkl
      have Hsucc := Lib.hid (listW_succ hkl)
      have hll := list_len Hall.out.1 (l.take k) (fun i hi => Hall.out.2.2 i (List.mem_of_mem_take hi))
      have hlk : (l.take k).length ≤ 2048 := by rw [List.length_take]; omega
      have hli := line_len Hall.out.1 hright
      generalize l.getD k default = i at *
      obtain ⟨op, a, b', c''⟩ := i
      simp only at x0 x1 x2 x3
      have hrange := right_range (by have := Hc.out.2.1; omega) (by omega) hright
      have hop := right_op hright
      obtain ⟨p, rfl⟩ := Int.eq_ofNat_of_zero_le hop.1
      have hp22 : p < 22 := by have := hop.2; simp only at this; omega
      have Hrange := Lib.hid hrange
      have hszr := hbel.size
      clear hright hrange hop hbel hkl
      have hi0 : (0 : Int) ≤ (k : Int) := by omega
      have hi1 : (k : Int) < (n : Int) := by omega
      have HTr := Lib.hid (HT.out.below Hbel.out HT.out.1)
      have Hbx7 := Lib.hid (heap_alloc_new wo (.cells #[.int .i64 (p : Int), .int .i64 a, .int .i64 b', .int .i64 c''] 24))
      have Hbel7 := Lib.hid (Hbel.out.alloc hszr (.cells #[.int .i64 (p : Int), .int .i64 a, .int .i64 b', .int .i64 c''] 24))
      have HT7 := Lib.hid (HTr.out.alloc (.cells #[.int .i64 (p : Int), .int .i64 a, .int .i64 b', .int .i64 c''] 24))
      have HB7 := Lib.hid (HB.out.below (below_one wo (.cells #[.int .i64 (p : Int), .int .i64 a, .int .i64 b', .int .i64 c''] 24)))
      go_wp2_with fail
      clear x0 x1 x2 x3
      refine (word_any _ _ HT7.out).mono ?_
      rintro e w3 ⟨rfl, rfl⟩
      have hl0 := lineT_zero ⟨(p : Int), a, b', c''⟩
      have hlin : ∀ j, (lineT ⟨(p : Int), a, b', c''⟩ j).length ≤ 60 := by
        intro j
        have h := hli
        unfold lineW at h
        unfold lineT
        have h2 : (((nums ⟨(p : Int), a, b', c''⟩).take j).flatMap (fun n => 32 :: itoa n)).length ≤ ((nums ⟨(p : Int), a, b', c''⟩).flatMap (fun n => 32 :: itoa n)).length := by
          conv => rhs; rw [← List.take_append_drop j (nums ⟨(p : Int), a, b', c''⟩)]
          rw [List.flatMap_append, List.length_append]
          omega
        simp only [List.length_append] at h ⊢
        omega
      have hnl := hlin 0
      rw [hl0] at hnl
      simp only at hnl hl0
      have Hlin := Lib.hid hlin
      rw [show nameOf (p : Int) = byt (nameB (p : Int)) from rfl]
      have hsz7 : (wo.alloc (.cells #[.int .i64 (p : Int), .int .i64 a, .int .i64 b', .int .i64 c''] 24)).heap.size = wo.heap.size + 1 := by simp
      have hlt7 : gB < wo.heap.size := HB.out.size
      clear hlin hli HB HT7 HTr
      generalize wo.alloc (.cells #[.int .i64 (p : Int), .int .i64 a, .int .i64 b', .int .i64 c''] 24) = w7 at *
      go_wp2_with fail
      refine (write_any gB _ (nameB (p : Int)) w7 HB7.out (by omega)).mono ?_
      rintro e w3 ⟨rfl, hB3, hb3, hk3⟩
      rw [← hl0] at hB3
      have HB3 := Lib.hid hB3
      have Hbx3 : Hid (w3.heap[wo.heap.size]? = some (.cells #[.int .i64 (p : Int), .int .i64 a, .int .i64 b', .int .i64 c''] 24)) := Lib.hid (hk3 _ _ Hbx7.out (by simp; omega) (by simp))
      have Hbel3 := Lib.hid (Hbel7.out.trans (hb3.mono hgB))
      have hs3 := hb3.size
      have HT3 := Lib.hid (HT.out.below Hbel3.out HT.out.1)
      have c0 := block_cell Hbx3.out 0
      have c1 := block_cell Hbx3.out 1
      have c2_ := block_cell Hbx3.out 2
      have c3_ := block_cell Hbx3.out 3
      simp at c0 c1 c2_ c3_
      have hlt3 : wo.heap.size < w3.heap.size := block_lt Hbx3.out
      clear hB3 hb3 hk3 hl0 HB7 Hbel7 Hbx7
      go_wp2_with fail
      refine (three_any _ _ _ _ _).mono ?_
      rintro e w4 ⟨rfl, hb4⟩
      have Hbx4 := Lib.hid (block_below Hbx3.out hb4 hlt3)
      have d0 := block_cell Hbx4.out 0
      have d1 := block_cell Hbx4.out 1
      have d2 := block_cell Hbx4.out 2
      have d3 := block_cell Hbx4.out 3
      simp at d0 d1 d2 d3
      have hs34 : w3.heap.size ≤ w4.heap.size := hb4.size
      have hlt4 : wo.heap.size < w4.heap.size := block_lt Hbx4.out
      have Hth4 := Lib.hid (heap_alloc_new w4 (.cells #[.int .i64 a, .int .i64 b', .int .i64 c''] 67))
      have HB4 := Lib.hid ((HB3.out.below hb4).below (below_one w4 (.cells #[.int .i64 a, .int .i64 b', .int .i64 c''] 67)))
      have Hbel4 := Lib.hid ((Hbel3.out.trans (hb4.mono (by omega))).alloc (by omega) (.cells #[.int .i64 a, .int .i64 b', .int .i64 c''] 67))
      have HT4 := Lib.hid ((HT3.out.below hb4 HT3.out.1).alloc (.cells #[.int .i64 a, .int .i64 b', .int .i64 c''] 67))
      clear hb4 c0 c1 c2_ c3_ HB3 HT3 Hbel3 Hbx3
      go_wp2_with fail
      refine (has_any _ _ _ _ _ HT4.out).mono ?_
      rintro e w5 ⟨rfl, hb5⟩
      have hs45 : w4.heap.size < w5.heap.size := by have := hb5.size; simp at this; omega
      have Hth5 := Lib.hid (block_below Hth4.out hb5 (by simp))
      have HB5 := Lib.hid (HB4.out.below hb5)
      have Hbel5 := Lib.hid (Hbel4.out.trans (hb5.mono (by simp; omega)))
      clear hb5 d0 d1 d2 d3 HB4 Hbel4 HT4 Hth4 Hbx4
      have HB6 := Lib.hid (HB5.out.below (below_one w5 (.stringIter (hasOf (p : Int)) 0)))
      have Hbel6 := Lib.hid (Hbel5.out.alloc (by omega) (.stringIter (hasOf (p : Int)) 0))
      go_wp2
      have hps := hasOf_size (p : Int)
      go_loopw [] (fun wr => ∃ j : Nat, j ≤ (hasOf (p : Int)).size ∧ wr.heap[w5.heap.size]? = some (.stringIter (hasOf (p : Int)) j) ∧ wr.heap[w4.heap.size]? = some (.cells #[.int .i64 a, .int .i64 b', .int .i64 c''] 67) ∧
          Bld wr gB (listW (l.take k) ++ lineT ⟨(p : Int), a, b', c''⟩ j) ∧ Below w.heap.size w wr)
        (fun wr => (hasOf (p : Int)).size - wr.iterPos w5.heap.size)
      case atStart => exact ⟨0, Nat.zero_le _, World.iter_heap _ _ _, block_iter Hth5.out _ _, HB6.out, Hbel6.out⟩
      case round =>
        obtain ⟨j, hj, hit, hth, hbl, hbelq⟩ := hrel
        have hswq : w5.heap.size < wr.heap.size := block_lt hit
        have Hpos := Lib.hid (iterPos_of hit)
        by_cases hjl : j < (hasOf (p : Int)).size
        · obtain ⟨w7, hrun, hit7, hsz7, hg7⟩ := iter_next (P := Tryd.prog) 0 hit (chr (p : Int) j) (chr_at hjl) (chr_ascii (p : Int) j)
          have Hth7 := Lib.hid (block_grown hth hg7 (by simp; omega))
          have Hbl7 := Lib.hid (hbl.iter hit hg7)
          have Hbel7' := Lib.hid (hbelq.grown hg7 (by omega) (by simp; omega))
          have hj3 : j < 3 := by omega
          have htc : w7.cell? ⟨w4.heap.size, j, none⟩ = some (.int .i64 (three a b' c'' j)) := by
            rw [block_cell Hth7.out j]
            match j, hj3 with
            | 0, _ => rfl
            | 1, _ => rfl
            | 2, _ => rfl
          have Hrg := Lib.hid (Hrange.out j hj3)
          have hsw7 : w5.heap.size < w7.heap.size := block_lt hit7
          have Hit7 := Lib.hid hit7
          have hq0 : (0 : Int) ≤ (j : Int) := by omega
          have hq1 : (j : Int) < 3 := by omega
          have Hls := Lib.hid (lineT_succ ⟨(p : Int), a, b', c''⟩ (j := j) (by have : (hasOf (p : Int)).size = (hasB (p : Int)).length := by unfold hasOf; simp [ByteArray.size]
                                                                               show j < (hasB (p : Int)).length; omega) hj3)
          have hlj := Hlin.out (j + 1)
          rw [Hls.out, List.length_append] at hlj
          simp only [List.length_cons] at hlj
          have hs7 : w.heap.size ≤ w7.heap.size := by omega
          clear hit hth hbl hbelq hg7 hsz7 hit7
          go_wp2_with fail
          refine (itoa_any (three a b' c'' j) w7 (by have := Hrg.out; omega) (by have := Hrg.out; omega) (HW.out w7 Hbel7'.out)).mono ?_
          rintro e w8 ⟨rfl, hb8⟩
          have Hit8 := Lib.hid (block_below Hit7.out hb8 hsw7)
          have Hth8 := Lib.hid (block_below Hth7.out hb8 (by omega))
          have Hbl8 := Lib.hid (Hbl7.out.below hb8)
          have Hbel8 := Lib.hid (Hbel7'.out.trans (hb8.mono hs7))
          have hs78 := hb8.size
          clear hb8 htc
          generalize itoa (three a b' c'' j) = tx at *
          have hbs : (byt tx).size = tx.length := byt_size tx
          have hcat : (⟨#[32]⟩ : ByteArray) ++ byt tx = byt (32 :: tx) := byt_byt [32] tx
          have hszx : ¬ 9223372036854775807 < 1 + tx.length := by omega
          go_wp2_with fail
          refine (write_any gB _ (32 :: tx) w8 Hbl8.out (by rw [List.length_append]; simp only [List.length_cons]; omega)).mono ?_
          rintro e w9 ⟨rfl, hB9, hb9, hk9⟩
          rw [List.append_assoc, ← Hls.out] at hB9
          have HB9 := Lib.hid hB9
          have Hit9 := Lib.hid (hk9 _ _ Hit8.out (by simp; omega) (by simp))
          have Hth9 := Lib.hid (hk9 _ _ Hth8.out (by simp; omega) (by simp))
          have Hbel9 := Lib.hid (Hbel8.out.trans (hb9.mono hgB))
          have Hpos9 := Lib.hid (iterPos_of Hit9.out)
          clear hB9 hb9 hk9 hcat hszx hbs
          go_wp2
          go_roundw
          case rel => exact ⟨j + 1, hjl, Hit9.out, Hth9.out, HB9.out, Hbel9.out⟩
          case measure => rw [Hpos.out, Hpos9.out]; omega
        · have hje : j = (hasOf (p : Int)).size := by omega
          have hrun := iter_end (P := Tryd.prog) 0 hit (by omega : (hasOf (p : Int)).size ≤ j)
          have hln : (nums ⟨(p : Int), a, b', c''⟩).length ≤ j := by
            have h2 : (hasOf (p : Int)).size = (hasB (p : Int)).length := by unfold hasOf; simp [ByteArray.size]
            have h3 : (nums ⟨(p : Int), a, b', c''⟩).length ≤ (hasB (p : Int)).length := by unfold nums; simp only [List.length_take]; exact Nat.min_le_left _ _
            omega
          rw [lineT_all _ hln] at hbl
          have Hbl := Lib.hid hbl; have Hbelq := Lib.hid hbelq
          have hl60 := Hlin.out j
          rw [lineT_all _ hln] at hl60
          clear hbl hbelq hit hth hje hjl hln
          have h10 : (⟨#[10]⟩ : ByteArray) = byt [10] := rfl
          go_wp2_with fail
          refine (write_any gB _ [10] wr Hbl.out (by rw [List.length_append]; simp only [List.length_cons, List.length_nil]; omega)).mono ?_
          rintro e w9 ⟨rfl, hB9, hb9, _⟩
          rw [List.append_assoc, ← Hsucc.out] at hB9
          have HB9 := Lib.hid hB9
          have Hbel9 := Lib.hid (Hbelq.out.trans (hb9.mono hgB))
          clear hB9 hb9 h10
          go_wp2
          go_roundw
          case rel => exact ⟨k + 1, by omega, by go_num, Hbel9.out, HB9.out⟩
          case measure => simp [RowKit.intOf]; omega
    · obtain rfl : k = n := by omega
      have e1 : l.take k = l := List.take_of_length_le (by have := Hl.out; omega)
      rw [e1] at HB
      have hd1 : decide ((k : Int) < (k : Int)) = false := by simp
      clear hlt hk hbel
      go_wp2_with fail
      refine (Tryd.bld_String gB gB _ wo HB.out (Nat.le_of_lt HB.out.size)).mono ?_
      rintro e w9 ⟨rfl, _, hb9, _⟩
      have Hb9 := Lib.hid (Hbel.out.trans (hb9.mono hgB))
      clear hb9
      go_wp2
      go_ret2
      exact ⟨by rw [Hz.out, He0.out]; rfl, Hb9.out⟩
end Go.Proofs.YtecolkpnllikaaaDoor
