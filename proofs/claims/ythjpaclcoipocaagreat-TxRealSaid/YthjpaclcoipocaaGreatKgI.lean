/- What a signature is made of: the walks of split and Index. Condition: bounds on how many bytes. -/
import Derived.Test.YthjpaclcoipocaaGreatKfB
import Derived.Test.YthjpaclcoipocaaGreatJoinA
import Derived.Test.YthjpaclcoipocaaGreatJoinV
import Derived.Test.YthjpaclcoipocaaGreatJoinH
namespace Go.Proofs.YthjpaclcoipocaaGreat
open Go.RowKit Go.Lib



theorem rd_take {w : World} {B n m : Nat} {A : Option Addr} {l : List Nat} (h : Rd w B 1 A n (bv l)) (hm : m ≤ n) : Rd w B 1 A m (bv (l.take m)) := by
  have hl := h.blen
  refine ⟨by rw [bv_len, List.length_take]; omega, fun h0 => ?_⟩
  obtain ⟨b, o, e, hb, hc⟩ := h.2 (by omega)
  refine ⟨b, o, e, hb, fun j u hu => hc j u ?_⟩
  rw [bv_take] at hu
  have hj := (List.getElem?_eq_some_iff.1 hu).1
  rw [List.length_take] at hj
  rwa [List.getElem?_take_of_lt (by omega)] at hu
def splitR (v : Nat) (rest : List Nat) : Option (Nat × List Nat × List D8) :=
  if rest.length < 144 then none else if (rest.length - 144) % 8 ≠ 0 then none else
  if 8 < (rest.length - 144) / 8 then none else if 2 ^ ((rest.length - 144) / 8) ≤ v then none else
  some (v, rest.take 144, (List.range ((rest.length - 144) / 8)).map fun i => chunk (rest.drop 144) i)
def splitS (st : RS) (v : Nat) (l : List Nat) : Option (Nat × List Nat × List D8) := if st.err ≠ 0 then none else splitR v (l.drop st.at_)
/-- A signature's number, its 144 bytes, its path. -/
def splitN (l : List Nat) : Option (Nat × List Nat × List D8) := splitS (numRS ⟨l, 0, 0⟩ 255).1 (numRS ⟨l, 0, 0⟩ 255).2 l
theorem chunk_cut (rest : List Nat) (k : Nat) : chunk ((rest.drop (144 + 8 * k)).take 8) 0 = chunk (rest.drop 144) k := by
  have hg : ∀ j, j < 8 → ((rest.drop (144 + 8 * k)).take 8).getD j 0 = (rest.drop 144).getD (8 * k + j) 0 := fun j hj => by
    rw [List.getD_eq_getElem?_getD, List.getElem?_take_of_lt hj, ← List.getD_eq_getElem?_getD, getD_drop, getD_drop, Nat.add_assoc]
  unfold chunk
  simp only [Nat.mul_zero, Nat.zero_add]
  rw [hg 0 (by decide), hg 1 (by decide), hg 2 (by decide), hg 3 (by decide), hg 4 (by decide), hg 5 (by decide), hg 6 (by decide), hg 7 (by decide), Nat.add_zero]
def partsZ : Value := .agg #[.int .i64 0, .slice none 0 0, .slice none 0 0]
theorem set3 {w : World} {g : Nat} {T : TypeId} {c0 c1 c2 : Value} (h : w.heap[g]? = some (.cells #[c0, c1, c2] T (0, 0))) (v0 v1 v2 : Value) :
    (((w.setCell ⟨g, 0, none⟩ v0).setCell ⟨g, 1, none⟩ v1).setCell ⟨g, 2, none⟩ v2).heap[g]? = some (.cells #[v0, v1, v2] T (0, 0)) := by
  have h1 := Joins.block_setCell (i := 0) h v0
  have h2 := Joins.block_setCell (i := 1) h1 v1
  have h3 := Joins.block_setCell (i := 2) h2 v2
  simpa using h3
theorem grown_set3 (w : World) (g : Nat) (v0 v1 v2 : Value) : w.grownBy (((w.setCell ⟨g, 0, none⟩ v0).setCell ⟨g, 1, none⟩ v1).setCell ⟨g, 2, none⟩ v2) (some g) :=
  (((grown_set1 w g 0 v0).trans (grown_set1 _ g 1 v1)).trans (grown_set1 _ g 2 v2))
theorem free3 {w : World} {g : Nat} {T : TypeId} {c0 c1 c2 : Value} (h : w.heap[g]? = some (.cells #[c0, c1, c2] T (0, 0))) :
    (∀ j, w.frozen? ⟨g, j, none⟩ = false) ∧ w.cell? ⟨g, 0, none⟩ = some c0 ∧ w.cell? ⟨g, 1, none⟩ = some c1 ∧ w.cell? ⟨g, 2, none⟩ = some c2 :=
  ⟨block_free h, by simpa using block_cell h 0, by simpa using block_cell h 1, by simpa using block_cell h 2⟩
def GivesS (w : World) (l : List Nat) (e : Ending) (w' : World) : Prop :=
  Below w.heap.size w w' ∧ match splitN l with
    | none => e = .returned (.tuple #[partsZ, .bool false])
    | some (i, o, pl) => ∃ A1 c1 A2, e = .returned (.tuple #[.agg #[.int .i64 (i : Int), .slice A1 144 c1, .slice A2 pl.length pl.length], .bool true]) ∧ 144 ≤ c1 ∧ Rd w' w'.heap.size 1 A1 144 (bv o) ∧ Rd w' w'.heap.size 8 A2 pl.length (flatD pl)
theorem wrap_pow {q : Nat} (hq : q ≤ 8) : wrap64 ((2 : Int) ^ q) = ((2 ^ q : Nat) : Int) := by
  have h2 : ((2 ^ q : Nat) : Int) = (2 : Int) ^ q := by simp
  have hb := pow_le8 hq
  rw [← h2]
  simp only [wrap64]
  omega
theorem geq_yes {q v : Nat} (hq : q ≤ 8) (h : 2 ^ q ≤ v) : decide (wrap64 ((2 : Int) ^ q) ≤ (v : Int)) = true ∧ ¬ ((v : Int) < wrap64 ((2 : Int) ^ q)) := by
  rw [wrap_pow hq]
  exact ⟨decide_eq_true (Int.ofNat_le.2 h), fun h2 => absurd (Int.ofNat_lt.1 h2) (Nat.not_lt.2 h)⟩
theorem geq_no {q v : Nat} (hq : q ≤ 8) (h : ¬ 2 ^ q ≤ v) : decide (wrap64 ((2 : Int) ^ q) ≤ (v : Int)) = false ∧ (v : Int) < wrap64 ((2 : Int) ^ q) := by
  rw [wrap_pow hq]
  exact ⟨decide_eq_false (fun h2 => h (Int.ofNat_le.1 h2)), Int.ofNat_lt.2 (Nat.lt_of_not_le h)⟩
theorem numRS_l (s : RS) (m : Nat) : (numRS s m).1.l = s.l := by
  unfold numRS
  split
  · rfl
  · split <;> rfl
theorem numRS_le (s : RS) (m : Nat) : (numRS s m).2 ≤ m := by
  unfold numRS
  split
  · exact Nat.zero_le _
  · split
    · exact Nat.zero_le _
    · unfold take1
      split
      · exact Nat.zero_le _
      · split
        · exact Nat.zero_le _
        · simp only; omega
theorem chunk_rd {w : World} {B n k : Nat} {A : Option Addr} {l : List Nat} (h : Rd w B 1 A n (bv l)) (hk : 8 * k + 8 ≤ n) :
    ∃ b o, A = some ⟨b, o, none⟩ ∧ b < B ∧ ∀ j, j < 8 → w.cell? ⟨b, o + (8 * k + j), none⟩ = some (.int .u8 ((l.getD (8 * k + j) 0 : Nat) : Int)) := by
  obtain ⟨b, o, e, hb, hc⟩ := h.2 (by omega)
  have hl := h.blen
  refine ⟨b, o, e, hb, fun j hj => hc _ _ ?_⟩
  have : 8 * k + j < l.length := by omega
  simp [bv, List.getElem?_map, List.getElem?_eq_getElem this, List.getD_eq_getElem?_getD]
set_option maxRecDepth 100000 in
set_option maxHeartbeats 4000000 in
theorem split_any (A : Option Addr) (n c : Nat) (l : List Nat) (w : World) (hr : Rd w w.heap.size 1 A n (bv l)) (hnc : n ≤ c) (hn : n ≤ 400000000) (hlt : ∀ x ∈ l, x < 256) :
    Calls Tryz.prog 83 #[.slice A n c] w (GivesS w l) := by
  have HX0 : Hid ((w.alloc (.cells #[.int .i64 0, .slice none 0 0, .slice none 0 0] 135)).heap[w.heap.size]? = some (.cells #[.int .i64 0, .slice none 0 0, .slice none 0 0] 135 (0, 0))) := heap_alloc_new w _
  have Hw0 := Lib.hid (h_one w (.cells #[.int .i64 0, .slice none 0 0, .slice none 0 0] 135))
  have Hr0 := Lib.hid (hr.below Hw0.out (Nat.le_refl _))
  have Hlt := Lib.hid hlt; have Hln := Lib.hid hr.blen
  clear hr hlt
  go_enter Tryz.func83, Tryz.ntmps83
  go_upto_region 1 with fail
  generalize w.alloc (.cells #[.int .i64 0, .slice none 0 0, .slice none 0 0] 135) = w1 at *
  go_wp2_with fail
  refine (newReader_any A n c l w1 (Hr0.out.more Hw0.out.size) (by omega) Hlt.out).mono ?_
  rintro e w2 ⟨b, rfl, hb2, hbl, hw2⟩
  have HX2 := Lib.hid (block_below HX0.out hw2 (block_lt HX0.out)); have Hw2 := Lib.hid (Hw0.out.trans (hw2.mono Hw0.out.size)); have HB2 := Lib.hid hb2
  have Hr2 := Lib.hid (Hr0.out.below hw2 Hw0.out.size)
  have hxb : w.heap.size < b := Nat.lt_of_lt_of_le (block_lt HX0.out) hbl
  clear hb2 hw2 HX0 Hw0 Hr0 hbl
  go_wp2_with fail
  refine (num_any b 255 ⟨l, 0, 0⟩ w2 HB2.out).mono ?_
  rintro e w3 ⟨rfl, hb3, hg3⟩
  have HX3 := Lib.hid (block_grown HX2.out hg3 (by intro e; injection e with e; omega)); have Hw3 := Lib.hid (Hw2.out.grown hg3 Hw2.out.size (fun q hq => by injection hq with hq; omega)); have HB3 := Lib.hid hb3
  have Hr3 := Lib.hid (Hr2.out.grown hg3 Hw2.out.size (fun q hq => by injection hq with hq; omega))
  have Hsp0 : Hid (splitN l = splitS (numRS ⟨l, 0, 0⟩ 255).1 (numRS ⟨l, 0, 0⟩ 255).2 l) := Lib.hid rfl
  have hls := numRS_l ⟨l, 0, 0⟩ 255
  have hvl := numRS_le ⟨l, 0, 0⟩ 255
  generalize (numRS ⟨l, 0, 0⟩ 255).2 = v at *
  generalize (numRS ⟨l, 0, 0⟩ 255).1 = st at *
  have Hls := Lib.hid hls
  have hw64 : IntKind.i64.wrap (v : Int) = (v : Int) := by rw [IntKind.wrap_i64]; omega
  clear hb3 hg3 HX2 Hw2 HB2 Hr2 hls
  go_wp2_with fail
  refine (err_any b st w3 HB3.out).mono ?_
  rintro e w' ⟨rfl, rfl⟩
  by_cases herr : st.err ≠ 0
  · have b1 : (st.err != 0) = true := by rw [bne_iff_ne]; exact herr
    have Hsp := Lib.hid (Hsp0.out.trans (by unfold splitS; rw [if_pos herr]))
    obtain ⟨zf, z0, z1, z2⟩ := free3 HX3.out
    have hlX := block_lt HX3.out
    clear herr Hsp0
    go_wp2
    have h3 := set3 HX3.out (.int .i64 0) (.slice none 0 0) (.slice none 0 0)
    have g3 := grown_set3 w3 w.heap.size (.int .i64 0) (.slice none 0 0) (.slice none 0 0)
    generalize (((w3.setCell ⟨w.heap.size, 0, none⟩ (.int .i64 0)).setCell ⟨w.heap.size, 1, none⟩ (.slice none 0 0)).setCell ⟨w.heap.size, 2, none⟩ (.slice none 0 0)) = w9 at *
    have hw9 := Hw3.out.grown g3 Hw3.out.size (fun q hq => by injection hq with hq; omega)
    clear zf z0 z1 z2
    obtain ⟨zf, z0, z1, z2⟩ := free3 h3
    refine bodyPost_ret (v := .tuple #[partsZ, .bool false]) (by simp [results, Tryz.results83, go_sem, z0, z1, z2, partsZ]) rfl ⟨hw9, ?_⟩
    rw [Hsp.out]
  have herr0 : st.err = 0 := by omega
  have b1 : (st.err != 0) = false := by rw [herr0]; rfl
  have Hsp1 := Lib.hid (Hsp0.out.trans (by unfold splitS; rw [if_neg herr]))
  have hat : st.at_ ≤ n := by
    obtain ⟨_, n', _, _, k2, _, k4, _⟩ := HB3.out
    have := k2.blen
    rw [Hls.out] at this
    have := Hln.out
    omega
  clear herr Hsp0
  go_wp2_with fail
  refine (left_any b st w3 HB3.out).mono ?_
  rintro e w4 ⟨rfl, kd, rfl⟩
  have hll : st.l.length = n := by rw [Hls.out]; exact Hln.out
  rw [hll]
  have Hrl := Lib.hid (show ((n : Int) - (st.at_ : Int)) = ((n - st.at_ : Nat) : Int) by omega)
  rw [Hrl.out]
  obtain ⟨A2, hsl, hrd⟩ := slice_from elem_u8 sizeOf_u8 Hr3.out hnc hat
  have e1 : ((st.at_ : Nat) : Int) = (n : Int) - ((n - st.at_ : Nat) : Int) := by omega
  rw [e1] at hsl
  have hdl : (l.drop st.at_).length = n - st.at_ := by rw [List.length_drop, Hln.out]
  rw [Nat.mul_one, ← bv_drop] at hrd
  have HX4 : Hid ((w3.drewN kd).heap[w.heap.size]? = some (.cells #[.int .i64 0, .slice none 0 0, .slice none 0 0] 135 (0, 0))) := HX3
  have Hw4 := Lib.hid (below_drewN Hw3.out kd)
  have Hrd4 : Hid (Rd (w3.drewN kd) w.heap.size 1 A2 (n - st.at_) (bv (l.drop st.at_))) := Lib.hid (hrd.drewN kd)
  have hrn : n - st.at_ ≤ n := by omega
  have hcr : n - st.at_ ≤ c - st.at_ := by omega
  have hrl2 : (0 : Int) ≤ (n : Int) - ((n - st.at_ : Nat) : Int) := by omega
  have hrl3 : (n : Int) - ((n - st.at_ : Nat) : Int) ≤ (n : Int) := by omega
  clear e1 hrd HX3 Hw3 HB3 Hr3 Hls hll Hrl hat
  generalize n - st.at_ = rl at *
  generalize c - st.at_ = cr at *
  generalize l.drop st.at_ = rest at *
  generalize w3.drewN kd = w4 at *
  have Hdl := Lib.hid hdl
  go_upto_region 6 with fail
  by_cases hA : rl < 144
  · have d1 : decide ((rl : Int) < 144) = true := decide_eq_true (by omega)
    have Hsp := Lib.hid (Hsp1.out.trans (by unfold splitR; rw [if_pos (by rw [hdl]; exact hA)]))
    obtain ⟨zf, z0, z1, z2⟩ := free3 HX4.out
    have hlX := block_lt HX4.out
    clear hA Hsp1 hdl
    go_wp2
    have h3 := set3 HX4.out (.int .i64 0) (.slice none 0 0) (.slice none 0 0)
    have g3 := grown_set3 w4 w.heap.size (.int .i64 0) (.slice none 0 0) (.slice none 0 0)
    generalize (((w4.setCell ⟨w.heap.size, 0, none⟩ (.int .i64 0)).setCell ⟨w.heap.size, 1, none⟩ (.slice none 0 0)).setCell ⟨w.heap.size, 2, none⟩ (.slice none 0 0)) = w9 at *
    have hw9 := Hw4.out.grown g3 Hw4.out.size (fun q hq => by injection hq with hq; omega)
    clear zf z0 z1 z2
    obtain ⟨zf, z0, z1, z2⟩ := free3 h3
    refine bodyPost_ret (v := .tuple #[partsZ, .bool false]) (by simp [results, Tryz.results83, go_sem, z0, z1, z2, partsZ]) rfl ⟨hw9, ?_⟩
    rw [Hsp.out]
  have d1 : decide ((rl : Int) < 144) = false := decide_eq_false (by omega)
  have Hsp2 := Lib.hid (Hsp1.out.trans (by unfold splitR; rw [if_neg (by rw [hdl]; exact hA)]))
  have h0 : (0 : Int) ≤ (rl : Int) - 144 := by omega
  have hrb : (rl : Int) ≤ 400000000 := by omega
  clear Hsp1
  by_cases hB : (rl - 144) % 8 ≠ 0
  · have b2 : (((rl : Int) - 144) % 8 != 0) = true := by rw [bne_iff_ne]; omega
    have Hsp := Lib.hid (Hsp2.out.trans (by rw [if_pos (by rw [hdl]; exact hB)]))
    obtain ⟨zf, z0, z1, z2⟩ := free3 HX4.out
    have hlX := block_lt HX4.out
    clear hA hB Hsp2 hdl
    go_wp2
    have h3 := set3 HX4.out (.int .i64 0) (.slice none 0 0) (.slice none 0 0)
    have g3 := grown_set3 w4 w.heap.size (.int .i64 0) (.slice none 0 0) (.slice none 0 0)
    generalize (((w4.setCell ⟨w.heap.size, 0, none⟩ (.int .i64 0)).setCell ⟨w.heap.size, 1, none⟩ (.slice none 0 0)).setCell ⟨w.heap.size, 2, none⟩ (.slice none 0 0)) = w9 at *
    have hw9 := Hw4.out.grown g3 Hw4.out.size (fun q hq => by injection hq with hq; omega)
    clear zf z0 z1 z2
    obtain ⟨zf, z0, z1, z2⟩ := free3 h3
    refine bodyPost_ret (v := .tuple #[partsZ, .bool false]) (by simp [results, Tryz.results83, go_sem, z0, z1, z2, partsZ]) rfl ⟨hw9, ?_⟩
    rw [Hsp.out]
  have b2 : (((rl : Int) - 144) % 8 != 0) = false := by
    have : ((rl : Int) - 144) % 8 = 0 := by omega
    rw [this]; rfl
  have Hsp3 := Lib.hid (Hsp2.out.trans (by rw [if_neg (by rw [hdl]; exact hB)]))
  obtain ⟨q, hq⟩ : ∃ q, q = (rl - 144) / 8 := ⟨_, rfl⟩
  have e8 : ((rl : Int) - 144) / 8 = (q : Int) := by omega
  have hrq : rl = 144 + 8 * q := by omega
  rw [hdl, ← hq] at Hsp3
  have Hrq := Lib.hid hrq
  clear hA hB Hsp2 hq hrq hdl
  go_upto_region 9 with fail
  simp only [e8]
  clear e8 h0 b2 hrb
  by_cases hC : 8 < q
  · have d2 : decide ((8 : Int) < (q : Int)) = true := decide_eq_true (by omega)
    have Hsp := Lib.hid (Hsp3.out.trans (by rw [if_pos hC]))
    obtain ⟨zf, z0, z1, z2⟩ := free3 HX4.out
    have hlX := block_lt HX4.out
    clear hC Hsp3
    go_wp2
    have h3 := set3 HX4.out (.int .i64 0) (.slice none 0 0) (.slice none 0 0)
    have g3 := grown_set3 w4 w.heap.size (.int .i64 0) (.slice none 0 0) (.slice none 0 0)
    generalize (((w4.setCell ⟨w.heap.size, 0, none⟩ (.int .i64 0)).setCell ⟨w.heap.size, 1, none⟩ (.slice none 0 0)).setCell ⟨w.heap.size, 2, none⟩ (.slice none 0 0)) = w9 at *
    have hw9 := Hw4.out.grown g3 Hw4.out.size (fun q hq => by injection hq with hq; omega)
    clear zf z0 z1 z2
    obtain ⟨zf, z0, z1, z2⟩ := free3 h3
    refine bodyPost_ret (v := .tuple #[partsZ, .bool false]) (by simp [results, Tryz.results83, go_sem, z0, z1, z2, partsZ]) rfl ⟨hw9, ?_⟩
    rw [Hsp.out]
  have d2 : decide ((8 : Int) < (q : Int)) = false := decide_eq_false (by omega)
  have Hsp4 := Lib.hid (Hsp3.out.trans (by rw [if_neg hC]))
  have hq8 : q ≤ 8 := by omega
  have hp8 := pow_le8 hq8
  have hq0 : decide ((q : Int) < 0) = false := by simp
  clear hC Hsp3 hp8
  by_cases hD : 2 ^ q ≤ v
  · obtain ⟨d3, d4⟩ := geq_yes hq8 hD
    have Hsp := Lib.hid (Hsp4.out.trans (by rw [if_pos hD]))
    obtain ⟨zf, z0, z1, z2⟩ := free3 HX4.out
    have hlX := block_lt HX4.out
    clear hD Hsp4
    go_wp2
    have h3 := set3 HX4.out (.int .i64 0) (.slice none 0 0) (.slice none 0 0)
    have g3 := grown_set3 w4 w.heap.size (.int .i64 0) (.slice none 0 0) (.slice none 0 0)
    generalize (((w4.setCell ⟨w.heap.size, 0, none⟩ (.int .i64 0)).setCell ⟨w.heap.size, 1, none⟩ (.slice none 0 0)).setCell ⟨w.heap.size, 2, none⟩ (.slice none 0 0)) = w9 at *
    have hw9 := Hw4.out.grown g3 Hw4.out.size (fun q hq => by injection hq with hq; omega)
    clear zf z0 z1 z2
    obtain ⟨zf, z0, z1, z2⟩ := free3 h3
    refine bodyPost_ret (v := .tuple #[partsZ, .bool false]) (by simp [results, Tryz.results83, go_sem, z0, z1, z2, partsZ]) rfl ⟨hw9, ?_⟩
    rw [Hsp.out]
  obtain ⟨d3, d4⟩ := geq_no hq8 hD
  have Hsp := Lib.hid (Hsp4.out.trans (by rw [if_neg hD]))
  clear hD Hsp4
  have hmk := make_dig q (by omega) w4
  have HD5 : Hid (DRow (newD w4 q) w4.heap.size q (rowK (fun i => chunk (rest.drop 144) i) 0 q)) := by rw [rowK_zero]; exact newD_row w4 q
  have HX5 := Lib.hid (newD_block (n := q) HX4.out)
  have hb5 := newD_below w4 q
  have Hw5 := Lib.hid (Hw4.out.trans (hb5.mono Hw4.out.size))
  have Hrd5 := Lib.hid (Hrd4.out.below hb5 Hw4.out.size)
  have hgw := Hw4.out.size
  have hxg : w.heap.size < w4.heap.size := block_lt HX4.out
  clear HX4 Hrd4 hb5
  go_upto_region 12 with (rw [hmk]; simp only [Result.andThen_ok])
  generalize newD w4 q = w5 at *
  generalize w4.heap.size = g at *
  clear hmk Hw4
  go_wp2
  go_loopw [55] (fun i wr => ∃ k : Nat, k ≤ q ∧ i = .int .i64 (k : Int) ∧ DRow wr g q (rowK (fun i => chunk (rest.drop 144) i) k q) ∧ wr.heap[w.heap.size]? = some (.cells #[.int .i64 0, .slice none 0 0, .slice none 0 0] 135 (0, 0)) ∧ Rd wr w.heap.size 1 A2 rl (bv rest) ∧ Below w.heap.size w wr) (fun i _ => q - (RowKit.intOf i).toNat)
  case atStart => exact ⟨0, Nat.zero_le _, rfl, HD5.out, HX5.out, Hrd5.out, Hw5.out⟩
  case round =>
    obtain ⟨k, hk, rfl, hD, hX, hR, hw⟩ := hrel
    have HD := Lib.hid hD; have HX := Lib.hid hX; have HR := Lib.hid hR; have Hw := Lib.hid hw
    clear hD hX hR hw HD5 HX5 Hrd5 Hw5
    by_cases hlt : k < q
    · have hd1 : decide ((k : Int) < (q : Int)) = true := decide_eq_true (by omega)
      have hki : (k : Int) < (q : Int) := by omega
      have Hk := Lib.hid hlt
      have Hset := Lib.hid (rowK_set (fun i => chunk (rest.drop 144) i) k q)
      have hrq := Hrq.out
      have hkq : 144 + 8 * k + 8 ≤ rl := by omega
      obtain ⟨A3, hsl3, hrd3⟩ := slice_range elem_u8 sizeOf_u8 HR.out hcr (k := 144 + 8 * k) (m := 144 + 8 * k + 8) (by omega) hkq
      have e1 : ((144 + 8 * k : Nat) : Int) = 144 + (k : Int) * 8 := by omega
      have e2 : ((144 + 8 * k + 8 : Nat) : Int) = 144 + (k : Int) * 8 + 8 := by omega
      rw [e1, e2, show 144 + 8 * k + 8 - (144 + 8 * k) = 8 by omega] at hsl3
      simp only [show 144 + 8 * k + 8 - (144 + 8 * k) = 8 by omega, Nat.mul_one, ← bv_drop, ← bv_take] at hrd3
      obtain ⟨b3, o3, rfl, hbB, hcc⟩ := chunk_rd (k := 0) hrd3 (by omega)
      have hch := chunk_cut rest k
      have x0 : wr.cell? ⟨b3, o3, none⟩ = some (.int .u8 ((chunk ((rest.drop (144 + 8 * k)).take 8) 0).x0 : Int)) := hcc 0 (by decide)
      have x1 : wr.cell? ⟨b3, o3 + 1, none⟩ = some (.int .u8 ((chunk ((rest.drop (144 + 8 * k)).take 8) 0).x1 : Int)) := hcc 1 (by decide)
      have x2 : wr.cell? ⟨b3, o3 + 2, none⟩ = some (.int .u8 ((chunk ((rest.drop (144 + 8 * k)).take 8) 0).x2 : Int)) := hcc 2 (by decide)
      have x3 : wr.cell? ⟨b3, o3 + 3, none⟩ = some (.int .u8 ((chunk ((rest.drop (144 + 8 * k)).take 8) 0).x3 : Int)) := hcc 3 (by decide)
      have x4 : wr.cell? ⟨b3, o3 + 4, none⟩ = some (.int .u8 ((chunk ((rest.drop (144 + 8 * k)).take 8) 0).x4 : Int)) := hcc 4 (by decide)
      have x5 : wr.cell? ⟨b3, o3 + 5, none⟩ = some (.int .u8 ((chunk ((rest.drop (144 + 8 * k)).take 8) 0).x5 : Int)) := hcc 5 (by decide)
      have x6 : wr.cell? ⟨b3, o3 + 6, none⟩ = some (.int .u8 ((chunk ((rest.drop (144 + 8 * k)).take 8) 0).x6 : Int)) := hcc 6 (by decide)
      have x7 : wr.cell? ⟨b3, o3 + 7, none⟩ = some (.int .u8 ((chunk ((rest.drop (144 + 8 * k)).take 8) 0).x7 : Int)) := hcc 7 (by decide)
      rw [hch] at x0 x1 x2 x3 x4 x5 x6 x7
      generalize chunk (rest.drop 144) k = d at *
      have hra := run_arr
      have hb3 : b3 < wr.heap.size := Nat.lt_of_lt_of_le hbB Hw.out.size
      obtain ⟨zf, r0, r1, r2, r3, r4, r5, r6, r7⟩ := HD.out.at8 Hk.out
      obtain ⟨h4, g4⟩ := HD.out.setR Hk.out d
      rw [Hset.out] at h4
      have hlg := HD.out.lt
      have HD4 := Lib.hid h4
      have HX4 := Lib.hid ((g4.block _ (block_lt HX.out) (by intro e; injection e with e; omega)).trans HX.out)
      have HR4 := Lib.hid (HR.out.grown g4 Hw.out.size (fun q hq => by injection hq with hq; omega))
      have Hw4 := Lib.hid (Hw.out.grown g4 Hw.out.size (fun q hq => by injection hq with hq; omega))
      have hk1 : (144 : Int) + (k : Int) * 8 ≤ 208 := by omega
      clear hrd3 hcc hch h4 g4 HX HR Hw hrq hkq e1 e2
      go_wp2
      go_roundw
      case rel => exact ⟨k + 1, Hk.out, by go_num, HD4.out, HX4.out, HR4.out, Hw4.out⟩
      case measure => have := Hk.out; simp [RowKit.intOf]; omega
    · obtain rfl : k = q := by omega
      have hd1 : decide ((k : Int) < (k : Int)) = false := by simp
      have hrq := Hrq.out
      have hrd4 := rd_take HR.out (m := 144) (by omega)
      rw [rowK_full] at HD
      obtain ⟨zf, z0, z1, z2⟩ := free3 HX.out
      have hlX := block_lt HX.out
      have hcr144 : 144 ≤ cr := by omega
      have HA4 := Lib.hid hrd4
      have hpl : ((List.range k).map fun i => chunk (rest.drop 144) i).length = k := by simp
      clear hlt hk hrq hrd4 HR
      go_wp2
      have h3 := set3 HX.out (.int .i64 (v : Int)) (.slice A2 144 cr) (.slice (some ⟨g, 0, none⟩) k k)
      have g3 := grown_set3 wr w.heap.size (.int .i64 (v : Int)) (.slice A2 144 cr) (.slice (some ⟨g, 0, none⟩) k k)
      generalize (((wr.setCell ⟨w.heap.size, 0, none⟩ (.int .i64 (v : Int))).setCell ⟨w.heap.size, 1, none⟩ (.slice A2 144 cr)).setCell ⟨w.heap.size, 2, none⟩ (.slice (some ⟨g, 0, none⟩) k k)) = w9 at *
      have hw9 := Hw.out.grown g3 Hw.out.size (fun q hq => by injection hq with hq; omega)
      clear zf z0 z1 z2
      obtain ⟨zf, z0, z1, z2⟩ := free3 h3
      refine bodyPost_ret (v := .tuple #[.agg #[.int .i64 (v : Int), .slice A2 144 cr, .slice (some ⟨g, 0, none⟩) k k], .bool true]) (by simp [results, Tryz.results83, go_sem, z0, z1, z2]) rfl ⟨hw9, ?_⟩
      rw [Hsp.out]
      simp only
      rw [hpl]
      refine ⟨A2, cr, some ⟨g, 0, none⟩, rfl, hcr144, ?_, ?_⟩
      · exact (HA4.out.grown g3 Hw.out.size (fun q hq => by injection hq with hq; omega)).more hw9.size
      · exact (HD.out.grown g3 (by intro e; injection e with e; omega)).rd
/-- Which key a signature says. -/
def indexN (l : List Nat) : Nat × Bool := match splitN l with
  | none => (0, false)
  | some (i, _, _) => (i, true)
end Go.Proofs.YthjpaclcoipocaaGreat
