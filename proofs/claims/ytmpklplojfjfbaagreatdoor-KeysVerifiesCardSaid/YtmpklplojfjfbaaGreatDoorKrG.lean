/- The reference's Same of lists; digests handed on. Conditions: bounds. -/
import Derived.Test.YtmpklplojfjfbaaGreatDoorJoinR
namespace Go.Proofs.YtmpklplojfjfbaaGreatDoor
open Go.RowKit Go.Lib





theorem neq_frm {P : Program} {t : TypeId} {xs ys : Array Value} {b : Bool} (h : ∀ u, (binOp .eql t (.agg xs) (.agg ys)).run P u = .ok (.bool b) u) : ∀ u, (binOp .neq t (.agg xs) (.agg ys)).run P u = .ok (.bool (!b)) u := by
  intro u
  have := h u
  rw [run_eql_struct] at this
  rw [run_neq_struct]
  revert this
  cases (Op.equalIn 10000 t (.agg xs) (.agg ys)).run P u <;> simp [Result.andThen]
set_option maxRecDepth 100000 in
set_option maxHeartbeats 4000000 in
theorem same4_any (A A' : Option Addr) (n c n' c' : Nat) (L M : List D8) (w : World) (hr : Rd w w.heap.size 8 A n (flatD L)) (hr' : Rd w w.heap.size 8 A' n' (flatD M)) (hn : n ≤ 1000000) :
    Calls Tryz.prog 97 #[.slice A n c, .slice A' n' c'] w fun e w' => e = .returned (.bool (decide (L = M))) ∧ Below w.heap.size w w' := by
  have Hl := Lib.hid hr.dlenD; have Hl' := Lib.hid hr'.dlenD; have Hr := Lib.hid hr; have Hr' := Lib.hid hr'
  clear hr hr'
  by_cases hne : n = n'
  · subst hne
    have d0 : ((n : Int) != (n : Int)) = false := by simp
    go_enter Tryz.func97, Tryz.ntmps97
    go_wp2
    go_loopw [5] (fun i wr => ∃ (k : Nat), k ≤ n ∧ i = .int .i64 (k : Int) ∧ (∀ j, j < k → sameD (L.getD j D8.zero) (M.getD j D8.zero) = true) ∧ Below w.heap.size w wr) (fun i _ => n - (RowKit.intOf i).toNat)
    case atStart => exact ⟨0, Nat.zero_le _, rfl, fun j hj => absurd hj (by omega), Below.refl _ _⟩
    case round =>
      obtain ⟨k, hk, rfl, hall, hbw⟩ := hrel
      have Hall := Lib.hid hall; have Hbw := Lib.hid hbw
      clear hall hbw
      by_cases hlt : k < n
      · have hd1 : decide ((k : Int) < (n : Int)) = true := decide_eq_true (by omega)
        have hki : (k : Int) < (n : Int) := by omega
        have Hk := Lib.hid hlt
        obtain ⟨b, o, rfl, hb, z0, z1, z2, z3, z4, z5, z6, z7⟩ := Hr.out.di8 hlt
        obtain ⟨b', o', rfl, hb', y0, y1, y2, y3, y4, y5, y6, y7⟩ := Hr'.out.di8 hlt
        generalize hd : L.getD k D8.zero = d at *
        generalize hd' : M.getD k D8.zero = d' at *
        have Hd := Lib.hid hd; have Hd' := Lib.hid hd'
        have hM : ∀ w', Below wr.heap.size wr w' → (Instr.loadAt 22 (.pointer (some ⟨b, o + k * 8, none⟩))).run Tryz.prog w' = .ok (.agg #[.int .u8 (d.x0 : Int), .int .u8 (d.x1 : Int), .int .u8 (d.x2 : Int), .int .u8 (d.x3 : Int), .int .u8 (d.x4 : Int), .int .u8 (d.x5 : Int), .int .u8 (d.x6 : Int), .int .u8 (d.x7 : Int)]) w' := fun w' hx => by
          have hc : ∀ {i : Nat} {v : Value}, w.cell? ⟨b, i, none⟩ = some v → w'.cell? ⟨b, i, none⟩ = some v := fun {i v} x => ((Hbw.out.trans (hx.mono Hbw.out.size)).cell (p := ⟨b, i, none⟩) hb).trans x
          exact load_rowQ (hc z0) (hc z1) (hc z2) (hc z3) (hc z4) (hc z5) (hc z6) (hc z7)
        have hM' : ∀ w', Below wr.heap.size wr w' → (Instr.loadAt 22 (.pointer (some ⟨b', o' + k * 8, none⟩))).run Tryz.prog w' = .ok (.agg #[.int .u8 (d'.x0 : Int), .int .u8 (d'.x1 : Int), .int .u8 (d'.x2 : Int), .int .u8 (d'.x3 : Int), .int .u8 (d'.x4 : Int), .int .u8 (d'.x5 : Int), .int .u8 (d'.x6 : Int), .int .u8 (d'.x7 : Int)]) w' := fun w' hx => by
          have hc : ∀ {i : Nat} {v : Value}, w.cell? ⟨b', i, none⟩ = some v → w'.cell? ⟨b', i, none⟩ = some v := fun {i v} x => ((Hbw.out.trans (hx.mono Hbw.out.size)).cell (p := ⟨b', i, none⟩) hb').trans x
          exact load_rowQ (hc y0) (hc y1) (hc y2) (hc y3) (hc y4) (hc y5) (hc y6) (hc y7)
        have hG : ∀ (x y : Operand) u, (eqGuard .neq 22 x y (.agg #[.int .u8 (d.x0 : Int), .int .u8 (d.x1 : Int), .int .u8 (d.x2 : Int), .int .u8 (d.x3 : Int), .int .u8 (d.x4 : Int), .int .u8 (d.x5 : Int), .int .u8 (d.x6 : Int), .int .u8 (d.x7 : Int)]) (.agg #[.int .u8 (d'.x0 : Int), .int .u8 (d'.x1 : Int), .int .u8 (d'.x2 : Int), .int .u8 (d'.x3 : Int), .int .u8 (d'.x4 : Int), .int .u8 (d'.x5 : Int), .int .u8 (d'.x6 : Int), .int .u8 (d'.x7 : Int)])).run Tryz.prog u = .ok () u := fun x y u => by first | (go_simp; done) | exact run_eqGuard_agg _ _ _ _ _ _ (by kernel_rfl)
        have hE0 : ∀ u, (binOp .eql 22 (.agg #[.int .u8 (d.x0 : Int), .int .u8 (d.x1 : Int), .int .u8 (d.x2 : Int), .int .u8 (d.x3 : Int), .int .u8 (d.x4 : Int), .int .u8 (d.x5 : Int), .int .u8 (d.x6 : Int), .int .u8 (d.x7 : Int)]) (.agg #[.int .u8 (d'.x0 : Int), .int .u8 (d'.x1 : Int), .int .u8 (d'.x2 : Int), .int .u8 (d'.x3 : Int), .int .u8 (d'.x4 : Int), .int .u8 (d'.x5 : Int), .int .u8 (d'.x6 : Int), .int .u8 (d'.x7 : Int)])).run Tryz.prog u = .ok (.bool (sameD d d')) u := fun u => eql_digR _ _ _ _ _ _ _ _ _ _ _ _ _ _ _ _ u
        have hE := neq_frm hE0
        clear z0 z1 z2 z3 z4 z5 z6 z7 y0 y1 y2 y3 y4 y5 y6 y7 hE0 hd hd'
        go_upto_region 6 with fail
        refine wp_region_held_drew (S := fun w' => Below wr.heap.size wr w') (by kernel_rfl) ((Below.refl wr.heap.size wr).drew) (fun hHeld => ?_)
        rw [show Array.replicate _ false = (#[false, false, false, false, false, false, false, false, false] : Array Bool) from rfl]
        refine takeH 0 (some 17) (v := ?_) rfl (by kernel_rfl) (by kernel_rfl) (by kernel_rfl) (by kernel_rfl) (fun _ _ _ h => h) (Or.inl ⟨by kernel_rfl, ?hy⟩) (by assumption) ?_
        case hy =>
          intro w' hSw
          clear hSw
          first
            | (go_simp; done)
            | (go_simp; with_reducible rfl)
        simp only [Act.put, List.setIfInBounds_toArray, List.set_cons_zero, List.set_cons_succ]
        refine takeH 1 (some 18) (v := ?_) rfl (by kernel_rfl) (by kernel_rfl) (by kernel_rfl) (by kernel_rfl) (fun _ _ _ h => h) (Or.inl ⟨by kernel_rfl, ?hy⟩) (by assumption) ?_
        case hy =>
          intro w' hSw
          clear hSw
          first
            | (go_simp; done)
            | (go_simp; with_reducible rfl)
        simp only [Act.put, List.setIfInBounds_toArray, List.set_cons_zero, List.set_cons_succ]
        refine takeH 2 (some 19) (v := ?_) rfl (by kernel_rfl) (by kernel_rfl) (by kernel_rfl) (by kernel_rfl) (fun _ _ _ h => h) (Or.inl ⟨by kernel_rfl, ?hy⟩) (by assumption) ?_
        case hy =>
          intro w' hSw
          clear hSw
          first
            | (go_simp; done)
            | (go_simp; with_reducible rfl)
        simp only [Act.put, List.setIfInBounds_toArray, List.set_cons_zero, List.set_cons_succ]
        refine takeH 3 (some 20) (v := .agg #[.int .u8 (d.x0 : Int), .int .u8 (d.x1 : Int), .int .u8 (d.x2 : Int), .int .u8 (d.x3 : Int), .int .u8 (d.x4 : Int), .int .u8 (d.x5 : Int), .int .u8 (d.x6 : Int), .int .u8 (d.x7 : Int)]) rfl (by kernel_rfl) (by kernel_rfl) (by kernel_rfl) (by kernel_rfl) (fun _ _ _ h => h) (Or.inl ⟨by kernel_rfl, ?hy⟩) (by assumption) ?_
        case hy =>
          intro w' hSw
          simp [execOp, Act.eval, hM w' hSw, Result.andThen]
        simp only [Act.put, List.setIfInBounds_toArray, List.set_cons_zero, List.set_cons_succ]
        refine takeH 4 (some 21) (v := ?_) rfl (by kernel_rfl) (by kernel_rfl) (by kernel_rfl) (by kernel_rfl) (fun _ _ _ h => h) (Or.inl ⟨by kernel_rfl, ?hy⟩) (by assumption) ?_
        case hy =>
          intro w' hSw
          clear hSw
          first
            | (go_simp; done)
            | (go_simp; with_reducible rfl)
        simp only [Act.put, List.setIfInBounds_toArray, List.set_cons_zero, List.set_cons_succ]
        refine takeH 5 (some 22) (v := ?_) rfl (by kernel_rfl) (by kernel_rfl) (by kernel_rfl) (by kernel_rfl) (fun _ _ _ h => h) (Or.inl ⟨by kernel_rfl, ?hy⟩) (by assumption) ?_
        case hy =>
          intro w' hSw
          clear hSw
          first
            | (go_simp; done)
            | (go_simp; with_reducible rfl)
        simp only [Act.put, List.setIfInBounds_toArray, List.set_cons_zero, List.set_cons_succ]
        refine takeH 6 (some 23) (v := ?_) rfl (by kernel_rfl) (by kernel_rfl) (by kernel_rfl) (by kernel_rfl) (fun _ _ _ h => h) (Or.inl ⟨by kernel_rfl, ?hy⟩) (by assumption) ?_
        case hy =>
          intro w' hSw
          clear hSw
          first
            | (go_simp; done)
            | (go_simp; with_reducible rfl)
        simp only [Act.put, List.setIfInBounds_toArray, List.set_cons_zero, List.set_cons_succ]
        refine takeH 7 (some 24) (v := .agg #[.int .u8 (d'.x0 : Int), .int .u8 (d'.x1 : Int), .int .u8 (d'.x2 : Int), .int .u8 (d'.x3 : Int), .int .u8 (d'.x4 : Int), .int .u8 (d'.x5 : Int), .int .u8 (d'.x6 : Int), .int .u8 (d'.x7 : Int)]) rfl (by kernel_rfl) (by kernel_rfl) (by kernel_rfl) (by kernel_rfl) (fun _ _ _ h => h) (Or.inl ⟨by kernel_rfl, ?hy⟩) (by assumption) ?_
        case hy =>
          intro w' hSw
          simp [execOp, Act.eval, hM' w' hSw, Result.andThen]
        simp only [Act.put, List.setIfInBounds_toArray, List.set_cons_zero, List.set_cons_succ]
        cases hs : sameD d d' with
        | true =>
          rw [hs, show (!true) = false from rfl] at hE
          refine takeH 8 (some 25) (v := .bool false) rfl (by kernel_rfl) (by kernel_rfl) (by kernel_rfl) (by kernel_rfl) (fun _ _ _ h => h) (Or.inl ⟨by kernel_rfl, fun w' _ => exec_binD (by rfl) (by rfl) (by rfl) (hG _ _ w') (hE w')⟩) (by assumption) ?_
          simp only [Act.put, List.setIfInBounds_toArray, List.set_cons_zero, List.set_cons_succ]
          refine wpAnyH_done (by kernel_rfl) ?_ _
          have Hall2 : Hid (∀ j, j < k + 1 → sameD (L.getD j D8.zero) (M.getD j D8.zero) = true) := Lib.hid (fun j hj => by
            rcases Nat.lt_or_ge j k with h1 | h1
            · exact Hall.out j h1
            · obtain rfl : j = k := by omega
              rw [Hd.out, Hd'.out]; exact hs)
          clear hM hM' hG hE hs
          go_wp2
          go_roundw
          case rel => exact ⟨k + 1, Hk.out, by go_num, Hall2.out, Hbw.out.drew⟩
          case measure => have := Hk.out; simp [RowKit.intOf]; omega
        | false =>
          rw [hs, show (!false) = true from rfl] at hE
          refine takeH 8 (some 25) (v := .bool true) rfl (by kernel_rfl) (by kernel_rfl) (by kernel_rfl) (by kernel_rfl) (fun _ _ _ h => h) (Or.inl ⟨by kernel_rfl, fun w' _ => exec_binD (by rfl) (by rfl) (by rfl) (hG _ _ w') (hE w')⟩) (by assumption) ?_
          simp only [Act.put, List.setIfInBounds_toArray, List.set_cons_zero, List.set_cons_succ]
          refine wpAnyH_done (by kernel_rfl) ?_ _
          have Hno : Hid (decide (L = M) = false) := Lib.hid (listD_no (k := k) (by rw [Hd.out, Hd'.out]; exact hs))
          clear hM hM' hG hE hs
          go_wp2
          go_ret
          exact ⟨ret_bool Hno.out.symm, Hbw.out.drew⟩
      · obtain rfl : k = n := by omega
        have hd1 : decide ((k : Int) < (k : Int)) = false := by simp
        have Hyes : Hid (decide (L = M) = true) := Lib.hid (listD_yes (by rw [Hl.out, Hl'.out]) (fun j hj => Hall.out j (by rw [← Hl.out]; exact hj)))
        go_wp2
        go_ret
        exact ⟨ret_bool Hyes.out.symm, Hbw.out⟩
  · have d0 : ((n : Int) != (n' : Int)) = true := by simp; omega
    have Hno : Hid (decide (L = M) = false) := Lib.hid (decide_eq_false (fun e => hne (by rw [← Hl.out, ← Hl'.out, e])))
    go_enter Tryz.func97, Tryz.ntmps97
    go_wp2
    go_ret
    exact ⟨ret_bool Hno.out.symm, Below.refl _ _⟩
theorem info_T8g : (Tryz.prog.info? 22).map (fun i => (i.zero, i.size, i.bytes)) = some (some (.agg #[.int .u8 0, .int .u8 0, .int .u8 0, .int .u8 0, .int .u8 0, .int .u8 0, .int .u8 0, .int .u8 0]), 8, 8) := by kernel_rfl
theorem flat_take (L : List D8) {k : Nat} (hk : k < L.length) : flatD (L.take (k + 1)) = flatD (L.take k) ++ (L.getD k D8.zero).cells := by
  rw [List.take_add_one, List.getElem?_eq_getElem hk, List.getD_eq_getElem?_getD, List.getElem?_eq_getElem hk, Option.toList_some, flatD_append]
  simp [flatD]
set_option maxRecDepth 100000 in
set_option maxHeartbeats 4000000 in
theorem digests_any (A : Option Addr) (n c : Nat) (L : List D8) (w : World) (hr : Rd w w.heap.size 8 A n (flatD L)) (hn : n ≤ 1000000) :
    Calls Tryz.prog 54 #[.slice A n c] w fun e w' => ∃ A' c', e = .returned (.slice A' n c') ∧ w'.ownsRow w.heap.size 22 8 (.slice A' n c') n (flatD L) ∧ Below w.heap.size w w' := by
  obtain ⟨i0, hi, hz0, hz1, hz2⟩ := info_parts info_T8g
  have HI := Lib.hid (And.intro hi (And.intro hz0 (And.intro hz1 hz2))); clear hi hz0 hz1 hz2
  have Hl := Lib.hid hr.dlenD; have Hr := Lib.hid hr
  clear hr
  go_enter Tryz.func54, Tryz.ntmps54
  go_wp2
  go_loopw [3, 8] (fun s3 s8 wr => ∃ (k : Nat) (A' : Option Addr) (c' : Nat), k ≤ n ∧ s8 = .int .i64 (k : Int) ∧ s3 = .slice A' k c' ∧ wr.ownsRow w.heap.size 22 8 (.slice A' k c') k (flatD (L.take k)) ∧ Below w.heap.size w wr) (fun _ s8 _ => n - (RowKit.intOf s8).toNat)
  case atStart => exact ⟨0, none, 0, Nat.zero_le _, rfl, rfl, World.ownsRow_nil _ _ _ _, Below.refl _ _⟩
  case round =>
    obtain ⟨k, A', c', hk, rfl, rfl, ho, hb⟩ := hrel
    have HO := Lib.hid ho; have Hb := Lib.hid hb
    clear ho hb
    by_cases hlt : k < n
    · have hd1 : decide ((k : Int) < (n : Int)) = true := decide_eq_true (by omega)
      have hki : (k : Int) < (n : Int) := by omega
      have Hk := Lib.hid hlt
      obtain ⟨b, o, rfl, hbB, x0, x1, x2, x3, x4, x5, x6, x7⟩ := (Hr.out.below Hb.out (Nat.le_refl _)).di8 hlt
      have Hsn := Lib.hid (flat_take L (k := k) (by have := Hl.out; omega))
      generalize L.getD k D8.zero = q at *
      have hbw : b < wr.heap.size := by have := Hb.out.size; omega
      have HQ2 : Hid ((wr.alloc (.cells #[.int .u8 (q.x0 : Int), .int .u8 (q.x1 : Int), .int .u8 (q.x2 : Int), .int .u8 (q.x3 : Int), .int .u8 (q.x4 : Int), .int .u8 (q.x5 : Int), .int .u8 (q.x6 : Int), .int .u8 (q.x7 : Int)] 38)).heap[wr.heap.size]? = some (.cells #[.int .u8 (q.x0 : Int), .int .u8 (q.x1 : Int), .int .u8 (q.x2 : Int), .int .u8 (q.x3 : Int), .int .u8 (q.x4 : Int), .int .u8 (q.x5 : Int), .int .u8 (q.x6 : Int), .int .u8 (q.x7 : Int)] 38 (0, 0))) := heap_alloc_new wr _
      have HO2 := Lib.hid (HO.out.alloc (.cells #[.int .u8 (q.x0 : Int), .int .u8 (q.x1 : Int), .int .u8 (q.x2 : Int), .int .u8 (q.x3 : Int), .int .u8 (q.x4 : Int), .int .u8 (q.x5 : Int), .int .u8 (q.x6 : Int), .int .u8 (q.x7 : Int)] 38)); have Hb2 := Lib.hid (Hb.out.alloc Hb.out.size (.cells #[.int .u8 (q.x0 : Int), .int .u8 (q.x1 : Int), .int .u8 (q.x2 : Int), .int .u8 (q.x3 : Int), .int .u8 (q.x4 : Int), .int .u8 (q.x5 : Int), .int .u8 (q.x6 : Int), .int .u8 (q.x7 : Int)] 38))
      go_upto_region 5 with fail
      generalize wr.alloc (.cells #[.int .u8 (q.x0 : Int), .int .u8 (q.x1 : Int), .int .u8 (q.x2 : Int), .int .u8 (q.x3 : Int), .int .u8 (q.x4 : Int), .int .u8 (q.x5 : Int), .int .u8 (q.x6 : Int), .int .u8 (q.x7 : Int)] 38) = w2 at *
      clear x0 x1 x2 x3 x4 x5 x6 x7 HO Hb
      obtain ⟨zf, y0, y1, y2, y3, y4, y5, y6, y7⟩ := free8 HQ2.out
      have hlq := block_lt HQ2.out
      have HO3 := Lib.hid (HO2.out.alloc (.cells #[.int .u8 (q.x0 : Int), .int .u8 (q.x1 : Int), .int .u8 (q.x2 : Int), .int .u8 (q.x3 : Int), .int .u8 (q.x4 : Int), .int .u8 (q.x5 : Int), .int .u8 (q.x6 : Int), .int .u8 (q.x7 : Int)] 22))
      have HRl : Hid (Rd (w2.alloc (.cells #[.int .u8 (q.x0 : Int), .int .u8 (q.x1 : Int), .int .u8 (q.x2 : Int), .int .u8 (q.x3 : Int), .int .u8 (q.x4 : Int), .int .u8 (q.x5 : Int), .int .u8 (q.x6 : Int), .int .u8 (q.x7 : Int)] 22)) (w2.alloc (.cells #[.int .u8 (q.x0 : Int), .int .u8 (q.x1 : Int), .int .u8 (q.x2 : Int), .int .u8 (q.x3 : Int), .int .u8 (q.x4 : Int), .int .u8 (q.x5 : Int), .int .u8 (q.x6 : Int), .int .u8 (q.x7 : Int)] 22)).heap.size 8 (some ⟨w2.heap.size, 0, none⟩) 1 (flatD [q])) := Rd.newA (n := 1) (sz := 8) (xs := flatD [q]) w2 22 #[.int .u8 (q.x0 : Int), .int .u8 (q.x1 : Int), .int .u8 (q.x2 : Int), .int .u8 (q.x3 : Int), .int .u8 (q.x4 : Int), .int .u8 (q.x5 : Int), .int .u8 (q.x6 : Int), .int .u8 (q.x7 : Int)] rfl rfl
      have hbs : w.heap.size ≤ (w2.alloc (.cells #[.int .u8 (q.x0 : Int), .int .u8 (q.x1 : Int), .int .u8 (q.x2 : Int), .int .u8 (q.x3 : Int), .int .u8 (q.x4 : Int), .int .u8 (q.x5 : Int), .int .u8 (q.x6 : Int), .int .u8 (q.x7 : Int)] 22)).heap.size := by rw [World.size_alloc]; have := Hb2.out.size; omega
      clear zf
      go_wp2_with (at_builtin; go_must (refine wpList_append_rd (w2.alloc (.cells #[.int .u8 (q.x0 : Int), .int .u8 (q.x1 : Int), .int .u8 (q.x2 : Int), .int .u8 (q.x3 : Int), .int .u8 (q.x4 : Int), .int .u8 (q.x5 : Int), .int .u8 (q.x6 : Int), .int .u8 (q.x7 : Int)] 22)) (by rfl) _ _ 26 (by rfl) w.heap.size 22 i0 (.agg #[.int .u8 0, .int .u8 0, .int .u8 0, .int .u8 0, .int .u8 0, .int .u8 0, .int .u8 0, .int .u8 0]) 8 8 Tryz.underlying26 HI.out rfl (by decide) _ _ _ (by rfl) HO3.out (w2.alloc (.cells #[.int .u8 (q.x0 : Int), .int .u8 (q.x1 : Int), .int .u8 (q.x2 : Int), .int .u8 (q.x3 : Int), .int .u8 (q.x4 : Int), .int .u8 (q.x5 : Int), .int .u8 (q.x6 : Int), .int .u8 (q.x7 : Int)] 22)).heap.size (some ⟨w2.heap.size, 0, none⟩) 1 1 _ (by rfl) HRl.out (flatD_one _) (by omega) (by omega) hbs ?_); intro v4 w4 ho4 hb4; obtain ⟨A4, c4, rfl⟩ := own_form ho4; rw [show flatD [q] = q.cells from by simp [flatD], ← Hsn.out] at ho4; have HO4 := Lib.hid ho4; have Hb4 := Lib.hid ((Hb2.out.alloc Hb2.out.size (.cells #[.int .u8 (q.x0 : Int), .int .u8 (q.x1 : Int), .int .u8 (q.x2 : Int), .int .u8 (q.x3 : Int), .int .u8 (q.x4 : Int), .int .u8 (q.x5 : Int), .int .u8 (q.x6 : Int), .int .u8 (q.x7 : Int)] 22)).trans hb4); clear ho4 hb4)
      go_roundw
      case rel => exact ⟨k + 1, A4, c4, Hk.out, by go_num, by go_num, HO4.out, Hb4.out⟩
      case measure => have := Hk.out; simp [RowKit.intOf]; omega
    · obtain rfl : k = n := by omega
      have hd1 : decide ((k : Int) < (k : Int)) = false := by simp
      have htk : L.take k = L := List.take_of_length_le (by rw [Hl.out]; exact Nat.le_refl _)
      have ho := HO.out
      rw [htk] at ho
      have HOf := Lib.hid ho
      clear ho htk HO
      go_wp2
      go_ret
      exact ⟨A', c', rfl, HOf.out, Hb.out⟩
end Go.Proofs.YtmpklplojfjfbaaGreatDoor
