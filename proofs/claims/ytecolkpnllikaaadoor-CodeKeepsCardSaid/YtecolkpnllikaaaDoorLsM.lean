/- The walk of parse: the instruction that a line is. Condition: the tables read as laid; the map of the operations' places; a bound on the line's length. -/
import Derived.Test.YtecolkpnllikaaaDoorLsN
import Derived.Test.YtecolkpnllikaaaDoorMapS
import Derived.Test.YtecolkpnllikaaaDoorCodeM
namespace Go.Proofs.YtecolkpnllikaaaDoor
open Go.RowKit Go.Lib
/-- The operations' names, as the map's keys. -/
def opsL : List ByteArray := nameL.map byt
theorem ops_len : opsL.length = 22 := by decide
theorem ops_nodup : opsL.Nodup := by
  have h : nameL.Nodup := by decide
  unfold opsL
  exact List.Pairwise.map _ (fun a b hab e => hab (byt_inj e)) h
theorem ops_small : ∀ e ∈ opsL, e.size ≤ maxLen := by
  intro e he
  obtain ⟨x, hx, rfl⟩ := List.mem_map.1 he
  rw [byt_size]
  have h : ∀ x ∈ nameL, x.length ≤ 6 := by decide
  have := h x hx
  have h2 : 6 ≤ maxLen := by decide
  omega
theorem ops_pos (s : List UInt8) : posS opsL (byt s) = opOf s := by
  unfold posS opsL opOf
  rw [List.findIdx?_map]
  congr 1
  funext x
  simp only [Function.comp]
  by_cases h : x = s
  · subst h; simp
  · rw [decide_eq_false h, decide_eq_false (fun e => h (byt_inj e))]
theorem split_cells (t : List UInt8) : (splitB ⟨#[32]⟩ 0 (countB (byt t) ⟨#[32]⟩) (byt t)) = (pieces 32 t).map byt := by
  have h := split_B 32 (byt t)
  rw [byt_data] at h
  rw [← h, List.map_map]
  conv => lhs; rw [← List.map_id (splitB _ _ _ _)]
  refine List.map_congr_left fun x _ => ?_
  simp only [Function.comp, id, byt_self]
theorem split_count (t : List UInt8) : countB (byt t) ⟨#[32]⟩ + 1 = (pieces 32 t).length := by
  have h := congrArg List.length (split_cells t)
  rw [List.length_map, splitB_all _ (by decide) _ _ _ rfl] at h
  exact h
theorem pieces_small : ∀ (c : UInt8) (l : List UInt8), ∀ p ∈ pieces c l, p.length ≤ l.length
  | c, [], p, hp => by simp [pieces] at hp; simp [hp]
  | c, b :: l, p, hp => by
    have ih := pieces_small c l
    have hne := pieces_ne c l
    unfold pieces at hp
    by_cases h : b = c
    · rw [if_pos h] at hp
      rcases List.mem_cons.1 hp with rfl | hp
      · simp
      · have := ih p hp; simp; omega
    · rw [if_neg h] at hp
      cases hq : pieces c l with
      | nil => exact absurd hq hne
      | cons q qs =>
        rw [hq] at hp ih
        rcases List.mem_cons.1 hp with rfl | hp
        · have := ih q (by simp); simp; omega
        · have := ih p (by simp [hp]); simp; omega
theorem pieces_len : ∀ (c : UInt8) (l : List UInt8), (pieces c l).length ≤ l.length + 1
  | c, [] => by simp [pieces]
  | c, b :: l => by
    have ih := pieces_len c l
    unfold pieces
    split
    · simp; omega
    · split
      · rename_i q qs hq; rw [hq] at ih; simp at ih ⊢; omega
      · simp
/-- The longest needle of the search in short texts is there. -/
def MaxAt (w : World) : Prop := ∃ m, w.cell? ⟨1, 0, none⟩ = some (.int .i64 m)
theorem set_val {w : World} {q k : Nat} {ps : List (List UInt8)} (h : w.heap[q]? = some (.cells #[.int .i64 (valA ps k 0), .int .i64 (valA ps k 1), .int .i64 (valA ps k 2)] 67)) (hk : k < 3) :
    (w.setCell ⟨q, k, none⟩ (.int .i64 (numberE (ps.getD k [])).1)).heap[q]? = some (.cells #[.int .i64 (valA ps (k + 1) 0), .int .i64 (valA ps (k + 1) 1), .int .i64 (valA ps (k + 1) 2)] 67) := by
  have := Joins.block_setCell (i := k) h (.int .i64 (numberE (ps.getD k [])).1)
  match k, hk with
  | 0, _ => simpa [valA] using this
  | 1, _ => simpa [valA] using this
  | 2, _ => simpa [valA] using this
theorem errA_first {ps : List (List UInt8)} {k : Nat} (h : errA ps k = 0) (he : (numberE (ps.getD k [])).2 ≠ 0) : ∀ m, k < m → errA ps m = (numberE (ps.getD k [])).2 := by
  intro m
  induction m with
  | zero => intro hm; omega
  | succ m ih =>
    intro hm
    unfold errA
    rcases Nat.lt_or_ge k m with h1 | h1
    · rw [ih h1, if_pos he]
    · obtain rfl : k = m := by omega
      rw [if_neg (by rw [h]; simp)]
set_option maxRecDepth 100000 in
set_option maxHeartbeats 4000000 in
theorem parse1_any (t : List UInt8) (b : Nat) (w : World) (hT : OpTab w) (hM : MaxAt w) (hp : PlacesS w b opsL) (ht : t.length ≤ 1000000) (hM0 : 1 < w.heap.size) (hbw : b < w.heap.size) :
    Calls Tryd.prog 60 #[.string (byt t), .map (some b)] w (fun e w' => e = .returned (.tuple #[.agg #[.int .i64 (lineE t).1.op, .int .i64 (lineE t).1.a, .int .i64 (lineE t).1.b, .int .i64 (lineE t).1.c], .int .i64 (lineE t).2]) ∧ Below w.heap.size w w') := by
  have Z0 := Lib.hid (heap_alloc_new w (.cells #[.int .i64 0, .int .i64 0, .int .i64 0, .int .i64 0] 24))
  have HT := Lib.hid (hT.alloc (.cells #[.int .i64 0, .int .i64 0, .int .i64 0, .int .i64 0] 24))
  have HP : Hid (PlacesS (w.alloc (.cells #[.int .i64 0, .int .i64 0, .int .i64 0, .int .i64 0] 24)) b opsL) := Lib.hid (hp.same (Below.heap_alloc w _ b hbw))
  have Hb : Hid (Below w.heap.size w (w.alloc (.cells #[.int .i64 0, .int .i64 0, .int .i64 0, .int .i64 0] 24))) := Lib.hid (below_one w _)
  obtain ⟨m, hm⟩ := hM
  have HM : Hid ((w.alloc (.cells #[.int .i64 0, .int .i64 0, .int .i64 0, .int .i64 0] 24)).cell? ⟨1, 0, none⟩ = some (.int .i64 m)) := Lib.hid ((below_one w _).cell (p := ⟨_, 0, none⟩) hM0 |>.trans hm)
  have Hs := Lib.hid (fun (u : World) (h : u.cell? ⟨1, 0, none⟩ = some (.int .i64 m)) => Tryd.strings_Split (byt t) ⟨#[32]⟩ m u (by rw [byt_size]; omega) h (by decide))
  have hsz0 : (w.alloc (.cells #[.int .i64 0, .int .i64 0, .int .i64 0, .int .i64 0] 24)).heap.size = w.heap.size + 1 := by simp
  have e1 : (byt t).toList.isEmpty = decide (t = []) := byt_empty t
  clear hT hp hm
  go_enter Tryd.func60, Tryd.ntmps60
  by_cases c1 : t = []
  · have Hres : Hid (lineE t = (zeroI, 3)) := Lib.hid (by unfold lineE; rw [if_pos c1])
    rw [decide_eq_true c1] at e1
    clear c1
    go_wp2
    refine bodyPost_ret (v := .tuple #[.agg #[.int .i64 0, .int .i64 0, .int .i64 0, .int .i64 0], .int .i64 3]) (by simp [results, Tryd.results60, go_sem]) rfl ⟨by rw [Hres.out]; rfl, Hb.out⟩
  rw [decide_eq_false c1] at e1
  go_wp2_with fail
  refine (Hs.out _ HM.out).mono ?_
  rintro e w1 ⟨rfl, rfl⟩
  rw [split_cells, split_count, hsz0]
  have hdef : lineE t = match opOf ((pieces 32 t).headD []) with
    | none => (zeroI, 6)
    | some op => argsE op (pieces 32 t).tail := by
    unfold lineE; rw [if_neg c1]; cases opOf ((pieces 32 t).headD []) <;> rfl
  have hne := pieces_ne 32 t
  have hpl := pieces_len 32 t
  have hps := pieces_small 32 t
  clear c1 Hs e1
  cases hq : pieces 32 t with
  | nil => exact absurd hq hne
  | cons p ps =>
  rw [hq] at hdef hpl hps
  simp only [List.headD_cons, List.tail_cons] at hdef
  have HD := Lib.hid hdef
  have HS := Lib.hid hps
  have hnm : (((p :: ps).map byt).map Value.string) = Value.string (byt p) :: (ps.map byt).map Value.string := rfl
  clear hdef hps hne hq HM
  have Z1 := Lib.hid (block_alloc Z0.out (.cells (((p :: ps).map byt).map Value.string).toArray 9))
  have HT1 := Lib.hid (HT.out.alloc (.cells (((p :: ps).map byt).map Value.string).toArray 9))
  have S1 := Lib.hid (heap_alloc_new (w.alloc (.cells #[.int .i64 0, .int .i64 0, .int .i64 0, .int .i64 0] 24)) (.cells (((p :: ps).map byt).map Value.string).toArray 9))
  have HP1 : Hid (PlacesS ((w.alloc (.cells #[.int .i64 0, .int .i64 0, .int .i64 0, .int .i64 0] 24)).alloc (.cells (((p :: ps).map byt).map Value.string).toArray 9)) b opsL) := Lib.hid (HP.out.same (Below.heap_alloc _ _ b (by omega)))
  have Hb1 := Lib.hid (Hb.out.alloc (by omega) (.cells (((p :: ps).map byt).map Value.string).toArray 9))
  rw [hsz0] at S1
  have hsz1 : ((w.alloc (.cells #[.int .i64 0, .int .i64 0, .int .i64 0, .int .i64 0] 24)).alloc (.cells (((p :: ps).map byt).map Value.string).toArray 9)).heap.size = w.heap.size + 2 := by simp
  generalize (w.alloc (.cells #[.int .i64 0, .int .i64 0, .int .i64 0, .int .i64 0] 24)).alloc (.cells (((p :: ps).map byt).map Value.string).toArray 9) = w2 at *
  clear Hb Z0 HT HP hsz0
  have hx0 : w2.cell? ⟨w.heap.size + 1, 0, none⟩ = some (.string (byt p)) := (block_cell S1.out 0).trans rfl
  have hlk := look_placesS HP1.out ops_nodup ops_small (byt p) (Nat.le_trans (by rw [byt_size]; exact HS.out p (by simp)) (Nat.le_trans ht (by decide)))
  rw [ops_pos] at hlk
  have hnl : (p :: ps).length = ps.length + 1 := rfl
  cases ho : opOf p with
  | none =>
    rw [ho] at hlk HD
    simp only at hlk HD
    have Hres := HD
    have Hb := Hb1
    have y0 := block_cell Z1.out
    have y := y0 0; have y1 := y0 1; have y2 := y0 2; have y3 := y0 3
    have yf := block_free Z1.out
    simp at y y1 y2 y3
    clear y0
    go_wp2
    obtain ⟨q1, _⟩ := set4 Z1.out 0 0 0 0
    have hbz : Below w.heap.size w ((((w2.setCell ⟨w.heap.size, 0, none⟩ (.int .i64 0)).setCell ⟨w.heap.size, 1, none⟩ (.int .i64 0)).setCell ⟨w.heap.size, 2, none⟩ (.int .i64 0)).setCell ⟨w.heap.size, 3, none⟩ (.int .i64 0)) := (((Hb.out.setCell (Nat.le_refl _) _).setCell (Nat.le_refl _) _).setCell (Nat.le_refl _) _).setCell (Nat.le_refl _) _
    generalize ((((w2.setCell ⟨w.heap.size, 0, none⟩ (.int .i64 0)).setCell ⟨w.heap.size, 1, none⟩ (.int .i64 0)).setCell ⟨w.heap.size, 2, none⟩ (.int .i64 0)).setCell ⟨w.heap.size, 3, none⟩ (.int .i64 0)) = wz at *
    have c := block_cell q1
    have c0 := c 0; have c1 := c 1; have c2 := c 2; have c3 := c 3
    simp at c0 c1 c2 c3
    clear c
    refine bodyPost_ret (v := .tuple #[.agg #[.int .i64 0, .int .i64 0, .int .i64 0, .int .i64 0], .int .i64 6]) (by simp [results, Tryd.results60, go_sem, c0, c1, c2, c3]) rfl ⟨by rw [Hres.out]; rfl, hbz⟩
  | some op =>
  rw [ho] at hlk HD
  simp only at hlk HD
  have hop22 : op < 22 := (op_name ho).1
  have hsz2 : (w2.alloc (.cells #[.int .i64 (op : Int), .int .i64 0, .int .i64 0, .int .i64 0] 24)).heap.size = w.heap.size + 3 := by simp; omega
  have V2 := heap_alloc_new w2 (.cells #[.int .i64 (op : Int), .int .i64 0, .int .i64 0, .int .i64 0] 24)
  have X3 := Lib.hid (heap_alloc_new (w2.alloc (.cells #[.int .i64 (op : Int), .int .i64 0, .int .i64 0, .int .i64 0] 24)) (.cells #[.int .i64 0, .int .i64 0, .int .i64 0] 67))
  rw [hsz1] at V2
  rw [hsz2] at X3
  have V3 := Lib.hid (block_alloc V2 (.cells #[.int .i64 0, .int .i64 0, .int .i64 0] 67))
  have Z3 := Lib.hid (block_alloc (block_alloc Z1.out (.cells #[.int .i64 (op : Int), .int .i64 0, .int .i64 0, .int .i64 0] 24)) (.cells #[.int .i64 0, .int .i64 0, .int .i64 0] 67))
  have S3 := Lib.hid (block_alloc (block_alloc S1.out (.cells #[.int .i64 (op : Int), .int .i64 0, .int .i64 0, .int .i64 0] 24)) (.cells #[.int .i64 0, .int .i64 0, .int .i64 0] 67))
  have T3 := Lib.hid ((HT1.out.alloc (.cells #[.int .i64 (op : Int), .int .i64 0, .int .i64 0, .int .i64 0] 24)).alloc (.cells #[.int .i64 0, .int .i64 0, .int .i64 0] 67))
  have Hb3 := Lib.hid ((Hb1.out.alloc (by omega) (.cells #[.int .i64 (op : Int), .int .i64 0, .int .i64 0, .int .i64 0] 24)).alloc (by omega) (.cells #[.int .i64 0, .int .i64 0, .int .i64 0] 67))
  have hsz3 : ((w2.alloc (.cells #[.int .i64 (op : Int), .int .i64 0, .int .i64 0, .int .i64 0] 24)).alloc (.cells #[.int .i64 0, .int .i64 0, .int .i64 0] 67)).heap.size = w.heap.size + 4 := by simp; omega
  clear V2 Z1 S1 HT1 Hb1 HP1
  go_wp2_with fail
  clear hlk hx0
  generalize (w2.alloc (.cells #[.int .i64 (op : Int), .int .i64 0, .int .i64 0, .int .i64 0] 24)).alloc (.cells #[.int .i64 0, .int .i64 0, .int .i64 0] 67) = w3 at *
  refine (has_any _ _ _ _ _ T3.out).mono ?_
  rintro e w4 ⟨rfl, hb4⟩
  have Z4 := Lib.hid (block_below Z3.out hb4 (by omega))
  have S4 := Lib.hid (block_below S3.out hb4 (by omega))
  have V4 := Lib.hid (block_below V3.out hb4 (by omega))
  have X4 := Lib.hid (block_below X3.out hb4 (by omega))
  have T4 := Lib.hid (T3.out.below hb4 (by omega))
  have Hb4 := Lib.hid (Hb3.out.trans (hb4.mono (by omega)))
  have hsw4 := hb4.size
  have hl3 := (op_facts ⟨op, hop22⟩).2.2.2.2.1
  simp only at hl3
  have hsof : (hasOf (op : Int)).size = (hasB (op : Int)).length := by unfold hasOf; simp [ByteArray.size]
  have HDA : Hid (argsE op ps = _) := Lib.hid (by unfold argsE; rfl)
  obtain ⟨H, hH⟩ : ∃ H, (hasB (op : Int)).length = H := ⟨_, rfl⟩
  rw [hH] at hl3 hsof HDA
  have hmin : min (ps.length : Int) (H : Int) = ((min ps.length H : Nat) : Int) := by omega
  obtain ⟨M, hM⟩ : ∃ M, min ps.length H = M := ⟨_, rfl⟩
  rw [hM] at HDA hmin
  have hM1 : M ≤ ps.length := by omega
  have hM2 : M ≤ H := by omega
  have hM3 : ps.length = H → M = ps.length := by omega
  have Hhas : ∀ u, OpTab u → Calls Tryd.prog 34 #[.agg #[.int .i64 (op : Int), .int .i64 0, .int .i64 0, .int .i64 0]] u fun e w' => e = .returned (.string (hasOf (op : Int))) ∧ Below u.heap.size u w' := fun u h => has_any _ _ _ _ u h
  have HHas := Lib.hid Hhas
  have HM3 := Lib.hid hM3
  generalize hasOf (op : Int) = hs at *
  clear hb4 Z3 S3 V3 X3 T3 Hb3 hM hH hM3 Hhas
  have hpl2 : ps.length ≤ 1000000 := by simp at hpl; omega
  clear hpl
  go_wp2
  go_loopw [40] (fun i wr => ∃ k : Nat, k ≤ M ∧ i = .int .i64 k ∧ errA ps k = 0 ∧ wr.heap[w.heap.size]? = some (.cells #[.int .i64 0, .int .i64 0, .int .i64 0, .int .i64 0] 24) ∧ wr.heap[w.heap.size + 1]? = some (.cells (((p :: ps).map byt).map Value.string).toArray 9) ∧
      wr.heap[w.heap.size + 2]? = some (.cells #[.int .i64 (op : Int), .int .i64 0, .int .i64 0, .int .i64 0] 24) ∧ wr.heap[w.heap.size + 3]? = some (.cells #[.int .i64 (valA ps k 0), .int .i64 (valA ps k 1), .int .i64 (valA ps k 2)] 67) ∧ OpTab wr ∧ Below w.heap.size w wr) (fun i _ => M - (RowKit.intOf i).toNat)
  case atStart => exact ⟨0, Nat.zero_le _, rfl, rfl, Z4.out, S4.out, V4.out, X4.out, T4.out, Hb4.out⟩
  case round =>
    obtain ⟨k, hk, rfl, hek, hz, hs', hv, hx, hT', hb⟩ := hrel
    have HZ := Lib.hid hz; have HS' := Lib.hid hs'; have HV := Lib.hid hv; have HX := Lib.hid hx; have HT' := Lib.hid hT'; have Hb := Lib.hid hb; have HE := Lib.hid hek
    clear hz hv hx hT' hb hek
    have hsw : w.heap.size + 3 < wr.heap.size := block_lt HX.out
    by_cases hlt : k < M
    · have hpk : k < ps.length := by omega
      have hcell : wr.cell? ⟨w.heap.size + 1, k + 1, none⟩ = some (.string (byt (ps.getD k []))) := by
        rw [block_cell hs' (k + 1)]
        simp [List.getD_eq_getElem?_getD, List.getElem?_eq_getElem hpk]
      have hsmall : (ps.getD k []).length ≤ 1000000 := by
        have := HS.out (ps.getD k []) (by rw [List.getD_eq_getElem?_getD, List.getElem?_eq_getElem hpk]; simp)
        omega
      obtain ⟨q, hq⟩ : ∃ q, ps.getD k [] = q := ⟨_, rfl⟩
      rw [hq] at hcell hsmall
      have Hq := Lib.hid hq
      have HN := Lib.hid (fun (u : World) => cnum_any q u hsmall)
      clear hs' hsmall hq
      go_wp2_with fail
      refine (HN.out _).mono ?_
      rintro e w5 ⟨rfl, hb5⟩
      have HZ5 := Lib.hid (block_below HZ.out hb5 (by omega))
      have HS5 := Lib.hid (block_below HS'.out hb5 (by omega))
      have HV5 := Lib.hid (block_below HV.out hb5 (by omega))
      have HX5 := Lib.hid (block_below HX.out hb5 (by omega))
      have HT5 := Lib.hid (HT'.out.below hb5 (by omega))
      have Hb := Lib.hid (Hb.out.trans (hb5.mono Hb.out.size))
      have hsw5 := hb5.size
      clear hb5 HZ HV HX HT' hcell HS'
      by_cases he : (numberE q).2 = 0
      · have hk3 : k < 3 := by omega
        have HN2 := Lib.hid (set_val HX5.out hk3)
        rw [Hq.out] at HN2
        have hEk : errA ps (k + 1) = 0 := by unfold errA; rw [if_neg (by rw [HE.out]; simp), Hq.out, he]
        have HEk := Lib.hid hEk
        have hb6 : w5.grownBy (w5.setCell ⟨w.heap.size + 3, k, none⟩ (.int .i64 (numberE q).1)) (some (w.heap.size + 3)) := grown_set _ _ _
        have HZ6 := Lib.hid (block_grown HZ5.out hb6 (by simp))
        have HS6 := Lib.hid (block_grown HS5.out hb6 (by simp))
        have HV6 := Lib.hid (block_grown HV5.out hb6 (by simp))
        have HT6 : Hid (OpTab (w5.setCell ⟨w.heap.size + 3, k, none⟩ (.int .i64 (numberE q).1))) := Lib.hid (HT5.out.below ((Below.refl w.heap.size w5).setCell (by show w.heap.size ≤ w.heap.size + 3; omega) _) (by omega))
        have Hb6 := Lib.hid (Hb.out.setCell (p := ⟨w.heap.size + 3, k, none⟩) (by show w.heap.size ≤ w.heap.size + 3; omega) (.int .i64 (numberE q).1))
        have hxc : w5.cell? ⟨w.heap.size + 3, k, none⟩ = some (.int .i64 (valA ps k k)) := by
          rw [block_cell HX5.out k]
          match k, hk3 with
          | 0, _ => rfl
          | 1, _ => rfl
          | 2, _ => rfl
        have xf := block_free HX5.out
        have b8 : ((numberE q).2 != 0) = false := by simpa using he
        have hi0 : (0 : Int) ≤ (k : Int) := by omega
        have hi1 : (k : Int) < 3 := by omega
        clear hb6 hEk he
        generalize (numberE q).2 = ne at *
        generalize (numberE q).1 = nv at *
        go_wp2
        go_roundw
        case rel => exact ⟨k + 1, by omega, by go_num, HEk.out, HZ6.out, HS6.out, HV6.out, HN2.out, HT6.out, Hb6.out⟩
        case measure => simp [RowKit.intOf]; omega
      · have hres : lineE t = (zeroI, (numberE q).2) := by
          rw [HD.out, HDA.out, errA_first HE.out (by rw [Hq.out]; exact he) M hlt, Hq.out, if_pos he]
        have Hres := Lib.hid hres
        have b8 : ((numberE q).2 != 0) = true := by simpa using he
        clear hres he
        generalize (numberE q).2 = ne at *
        generalize (numberE q).1 = nv at *
        have y0 := block_cell HZ5.out
        have y := y0 0; have y1 := y0 1; have y2 := y0 2; have y3 := y0 3
        have yf := block_free HZ5.out
        simp at y y1 y2 y3
        clear y0
        go_wp2
        obtain ⟨q1, _⟩ := set4 HZ5.out 0 0 0 0
        have hbz : Below w.heap.size w ((((w5.setCell ⟨w.heap.size, 0, none⟩ (.int .i64 0)).setCell ⟨w.heap.size, 1, none⟩ (.int .i64 0)).setCell ⟨w.heap.size, 2, none⟩ (.int .i64 0)).setCell ⟨w.heap.size, 3, none⟩ (.int .i64 0)) := (((Hb.out.setCell (Nat.le_refl _) _).setCell (Nat.le_refl _) _).setCell (Nat.le_refl _) _).setCell (Nat.le_refl _) _
        generalize ((((w5.setCell ⟨w.heap.size, 0, none⟩ (.int .i64 0)).setCell ⟨w.heap.size, 1, none⟩ (.int .i64 0)).setCell ⟨w.heap.size, 2, none⟩ (.int .i64 0)).setCell ⟨w.heap.size, 3, none⟩ (.int .i64 0)) = wz at *
        have c := block_cell q1
        have c0 := c 0; have c1 := c 1; have c2 := c 2; have c3 := c 3
        simp at c0 c1 c2 c3
        clear c
        refine bodyPost_ret (v := .tuple #[.agg #[.int .i64 0, .int .i64 0, .int .i64 0, .int .i64 0], .int .i64 ne]) (by simp [results, Tryd.results60, go_sem, c0, c1, c2, c3]) rfl ⟨by rw [Hres.out]; rfl, hbz⟩
    · have hkM : k = M := by omega
      rw [hkM] at HE HX
      have v0 := block_cell HV.out
      have v := v0 0; have v1 := v0 1; have v2 := v0 2; have v3 := v0 3
      simp at v v1 v2 v3
      clear v0 hs' hk
      go_wp2_with fail
      refine (HHas.out _ HT'.out).mono ?_
      rintro e w5 ⟨rfl, hb5⟩
      have HZ5 := Lib.hid (block_below HZ.out hb5 (by omega))
      have HV5 := Lib.hid (block_below HV.out hb5 (by omega))
      have HX5 := Lib.hid (block_below HX.out hb5 (by omega))
      have Hb := Lib.hid (Hb.out.trans (hb5.mono Hb.out.size))
      have hsw5 := hb5.size
      clear hb5 HZ HV HX HT' HS' v v1 v2 v3 hlt hkM
      by_cases hc : ps.length = H
      · have hMl := HM3.out hc
        have hres : lineE t = (⟨(op : Int), valA ps M 0, valA ps M 1, valA ps M 2⟩, 0) := by
          rw [HD.out, HDA.out, HE.out, if_neg (by simp), if_neg (by omega), hMl]
        have Hres := Lib.hid hres
        have b8 : ((ps.length : Int) != (H : Int)) = false := by simp; omega
        clear hres hc hMl
        generalize valA ps M 0 = a9 at *
        generalize valA ps M 1 = b9 at *
        generalize valA ps M 2 = c9 at *
        have x0 := block_cell HX5.out
        have x1 := x0 0; have x2 := x0 1; have x3 := x0 2
        simp at x1 x2 x3
        have u0 := block_cell HV5.out
        have u1 := u0 0; have u2 := u0 1; have u3 := u0 2; have u4 := u0 3
        have uf := block_free HV5.out
        simp at u1 u2 u3 u4
        have y0 := block_cell HZ5.out
        have y := y0 0; have y1 := y0 1; have y2 := y0 2; have y3 := y0 3
        have yf := block_free HZ5.out
        simp at y y1 y2 y3
        clear y0 x0 u0
        have hne12 : w.heap.size + 3 ≠ w.heap.size + 2 := by omega
        have K0 := And.intro x1 (And.intro x2 x3)
        go_wp2
        go_region_held3 (fun w' => w'.cell? ⟨w.heap.size + 3, 0, none⟩ = some (.int .i64 a9) ∧ w'.cell? ⟨w.heap.size + 3, 1, none⟩ = some (.int .i64 b9) ∧ w'.cell? ⟨w.heap.size + 3, 2, none⟩ = some (.int .i64 c9)) (first | exact K0 | exact keep3 K0 hne12 | exact keep3 (keep3 K0 hne12) hne12 | exact keep3 (keep3 (keep3 K0 hne12) hne12) hne12 | go_keep) (fail)
        all_goals
          have qv : (((w5.setCell ⟨w.heap.size + 2, 1, none⟩ (.int .i64 a9)).setCell ⟨w.heap.size + 2, 2, none⟩ (.int .i64 b9)).setCell ⟨w.heap.size + 2, 3, none⟩ (.int .i64 c9)).drew.heap[w.heap.size + 2]? = some (.cells #[.int .i64 (op : Int), .int .i64 a9, .int .i64 b9, .int .i64 c9] 24) := by
            have := Joins.block_setCell (i := 3) (Joins.block_setCell (i := 2) (Joins.block_setCell (i := 1) HV5.out (.int .i64 a9)) (.int .i64 b9)) (.int .i64 c9)
            exact this
          have hle : w.heap.size ≤ w.heap.size + 2 := by omega
          have gv : w5.grownBy (((w5.setCell ⟨w.heap.size + 2, 1, none⟩ (.int .i64 a9)).setCell ⟨w.heap.size + 2, 2, none⟩ (.int .i64 b9)).setCell ⟨w.heap.size + 2, 3, none⟩ (.int .i64 c9)).drew (some (w.heap.size + 2)) := grown_drew (grown_trans (grown_trans (grown_set _ _ _) (grown_set _ _ _)) (grown_set _ _ _))
          have HZ9 := Lib.hid (block_grown HZ5.out gv (by simp))
          have Hb9 := Lib.hid (((Hb.out.setCell (p := ⟨w.heap.size + 2, 1, none⟩) hle (.int .i64 a9)).setCell (p := ⟨w.heap.size + 2, 2, none⟩) hle (.int .i64 b9)).setCell (p := ⟨w.heap.size + 2, 3, none⟩) hle (.int .i64 c9)).drew
          generalize (((w5.setCell ⟨w.heap.size + 2, 1, none⟩ (.int .i64 a9)).setCell ⟨w.heap.size + 2, 2, none⟩ (.int .i64 b9)).setCell ⟨w.heap.size + 2, 3, none⟩ (.int .i64 c9)).drew = wx at *
          clear gv
          have x0 := block_cell qv
          have x1 := x0 0; have x2 := x0 1; have x3 := x0 2; have x4 := x0 3
          simp at x1 x2 x3 x4
          have y0 := block_cell HZ9.out
          have y := y0 0; have y1 := y0 1; have y2 := y0 2; have y3 := y0 3
          have yf := block_free HZ9.out
          simp at y y1 y2 y3
          clear y0 x0
          go_wp2
          obtain ⟨q1, _⟩ := set4 HZ9.out (op : Int) a9 b9 c9
          have hbz : Below w.heap.size w ((((wx.setCell ⟨w.heap.size, 0, none⟩ (.int .i64 (op : Int))).setCell ⟨w.heap.size, 1, none⟩ (.int .i64 a9)).setCell ⟨w.heap.size, 2, none⟩ (.int .i64 b9)).setCell ⟨w.heap.size, 3, none⟩ (.int .i64 c9)) := (((Hb9.out.setCell (Nat.le_refl _) _).setCell (Nat.le_refl _) _).setCell (Nat.le_refl _) _).setCell (Nat.le_refl _) _
          generalize ((((wx.setCell ⟨w.heap.size, 0, none⟩ (.int .i64 (op : Int))).setCell ⟨w.heap.size, 1, none⟩ (.int .i64 a9)).setCell ⟨w.heap.size, 2, none⟩ (.int .i64 b9)).setCell ⟨w.heap.size, 3, none⟩ (.int .i64 c9)) = wz at *
          have c := block_cell q1
          have c0 := c 0; have c1 := c 1; have c2 := c 2; have c3 := c 3
          simp at c0 c1 c2 c3
          clear c
          refine bodyPost_ret (v := .tuple #[.agg #[.int .i64 (op : Int), .int .i64 a9, .int .i64 b9, .int .i64 c9], .int .i64 0]) (by simp [results, Tryd.results60, go_sem, c0, c1, c2, c3]) rfl ⟨by rw [Hres.out], hbz⟩
      · have hres : lineE t = (zeroI, 3) := by
          rw [HD.out, HDA.out, HE.out, if_neg (by simp), if_pos hc]
        have Hres := Lib.hid hres
        have b8 : ((ps.length : Int) != (H : Int)) = true := by simp; omega
        clear hres hc
        have y0 := block_cell HZ5.out
        have y := y0 0; have y1 := y0 1; have y2 := y0 2; have y3 := y0 3
        have yf := block_free HZ5.out
        simp at y y1 y2 y3
        clear y0
        go_wp2
        obtain ⟨q1, _⟩ := set4 HZ5.out 0 0 0 0
        have hbz : Below w.heap.size w ((((w5.setCell ⟨w.heap.size, 0, none⟩ (.int .i64 0)).setCell ⟨w.heap.size, 1, none⟩ (.int .i64 0)).setCell ⟨w.heap.size, 2, none⟩ (.int .i64 0)).setCell ⟨w.heap.size, 3, none⟩ (.int .i64 0)) := (((Hb.out.setCell (Nat.le_refl _) _).setCell (Nat.le_refl _) _).setCell (Nat.le_refl _) _).setCell (Nat.le_refl _) _
        generalize ((((w5.setCell ⟨w.heap.size, 0, none⟩ (.int .i64 0)).setCell ⟨w.heap.size, 1, none⟩ (.int .i64 0)).setCell ⟨w.heap.size, 2, none⟩ (.int .i64 0)).setCell ⟨w.heap.size, 3, none⟩ (.int .i64 0)) = wz at *
        have c := block_cell q1
        have c0 := c 0; have c1 := c 1; have c2 := c 2; have c3 := c 3
        simp at c0 c1 c2 c3
        clear c
        refine bodyPost_ret (v := .tuple #[.agg #[.int .i64 0, .int .i64 0, .int .i64 0, .int .i64 0], .int .i64 3]) (by simp [results, Tryd.results60, go_sem, c0, c1, c2, c3]) rfl ⟨by rw [Hres.out]; rfl, hbz⟩
end Go.Proofs.YtecolkpnllikaaaDoor
