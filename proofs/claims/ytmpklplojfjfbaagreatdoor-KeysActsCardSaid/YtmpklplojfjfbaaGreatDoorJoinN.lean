/- The reference's Same of lists; digests handed on. Conditions: bounds. The reference's Same of rings that are ledgers alone. Conditions: bounds. A ledger handed out: the walk of Ledger. Condition: bounds. What a ring tells is as the reference's: the walk of told. Conditions: bounds. -/
import Derived.Test.YtmpklplojfjfbaaGreatDoorJoinR
import Derived.Test.YtmpklplojfjfbaaGreatDoorJoinY
import Derived.Test.YtmpklplojfjfbaaGreatDoorKeZ
namespace Go.Proofs.YtmpklplojfjfbaaGreatDoor
open Go.RowKit Go.Lib





theorem neq_frm {P : Program} {t : TypeId} {xs ys : Array Value} {b : Bool} (h : ∀ u, (binOp .eql t (.agg xs) (.agg ys)).run P u = .ok (.bool b) u) : ∀ u, (binOp .neq t (.agg xs) (.agg ys)).run P u = .ok (.bool (!b)) u := by
  intro u
  have := h u
  rw [run_eql_struct] at this
  rw [run_neq_struct]
  revert this
  cases (Op.equalIn 10000 t (.agg xs) (.agg ys)).run P u <;> simp [Result.andThen]
set_option maxRecDepth 100000 in
set_option maxHeartbeats 4000000 in
theorem same4_any (A A' : Option Addr) (n c n' c' : Nat) (L M : List D8) (w : World) (hr : Rd w w.heap.size 8 A n (flatD L)) (hr' : Rd w w.heap.size 8 A' n' (flatD M)) (hn : n ≤ 1000000) :
    Calls Tryz.prog 97 #[.slice A n c, .slice A' n' c'] w fun e w' => e = .returned (.bool (decide (L = M))) ∧ Below w.heap.size w w' := by
  have Hl := Lib.hid hr.dlenD; have Hl' := Lib.hid hr'.dlenD; have Hr := Lib.hid hr; have Hr' := Lib.hid hr'
  clear hr hr'
  by_cases hne : n = n'
  · subst hne
    have d0 : ((n : Int) != (n : Int)) = false := by simp
    go_enter Tryz.func97, Tryz.ntmps97
    go_wp2
    go_loopw [5] (fun i wr => ∃ (k : Nat), k ≤ n ∧ i = .int .i64 (k : Int) ∧ (∀ j, j < k → sameD (L.getD j D8.zero) (M.getD j D8.zero) = true) ∧ Below w.heap.size w wr) (fun i _ => n - (RowKit.intOf i).toNat)
    case atStart => exact ⟨0, Nat.zero_le _, rfl, fun j hj => absurd hj (by omega), Below.refl _ _⟩
    case round =>
      obtain ⟨k, hk, rfl, hall, hbw⟩ := hrel
      have Hall := Lib.hid hall; have Hbw := Lib.hid hbw
      clear hall hbw
      by_cases hlt : k < n
      · have hd1 : decide ((k : Int) < (n : Int)) = true := decide_eq_true (by omega)
        have hki : (k : Int) < (n : Int) := by omega
        have Hk := Lib.hid hlt
        obtain ⟨b, o, rfl, hb, z0, z1, z2, z3, z4, z5, z6, z7⟩ := Hr.out.di8 hlt
        obtain ⟨b', o', rfl, hb', y0, y1, y2, y3, y4, y5, y6, y7⟩ := Hr'.out.di8 hlt
        generalize hd : L.getD k D8.zero = d at *
        generalize hd' : M.getD k D8.zero = d' at *
        have Hd := Lib.hid hd; have Hd' := Lib.hid hd'
        have hM : ∀ w', Below wr.heap.size wr w' → (Instr.loadAt 22 (.pointer (some ⟨b, o + k * 8, none⟩))).run Tryz.prog w' = .ok (.agg #[.int .u8 (d.x0 : Int), .int .u8 (d.x1 : Int), .int .u8 (d.x2 : Int), .int .u8 (d.x3 : Int), .int .u8 (d.x4 : Int), .int .u8 (d.x5 : Int), .int .u8 (d.x6 : Int), .int .u8 (d.x7 : Int)]) w' := fun w' hx => by
          have hc : ∀ {i : Nat} {v : Value}, w.cell? ⟨b, i, none⟩ = some v → w'.cell? ⟨b, i, none⟩ = some v := fun {i v} x => ((Hbw.out.trans (hx.mono Hbw.out.size)).cell (p := ⟨b, i, none⟩) hb).trans x
          exact load_rowQ (hc z0) (hc z1) (hc z2) (hc z3) (hc z4) (hc z5) (hc z6) (hc z7)
        have hM' : ∀ w', Below wr.heap.size wr w' → (Instr.loadAt 22 (.pointer (some ⟨b', o' + k * 8, none⟩))).run Tryz.prog w' = .ok (.agg #[.int .u8 (d'.x0 : Int), .int .u8 (d'.x1 : Int), .int .u8 (d'.x2 : Int), .int .u8 (d'.x3 : Int), .int .u8 (d'.x4 : Int), .int .u8 (d'.x5 : Int), .int .u8 (d'.x6 : Int), .int .u8 (d'.x7 : Int)]) w' := fun w' hx => by
          have hc : ∀ {i : Nat} {v : Value}, w.cell? ⟨b', i, none⟩ = some v → w'.cell? ⟨b', i, none⟩ = some v := fun {i v} x => ((Hbw.out.trans (hx.mono Hbw.out.size)).cell (p := ⟨b', i, none⟩) hb').trans x
          exact load_rowQ (hc y0) (hc y1) (hc y2) (hc y3) (hc y4) (hc y5) (hc y6) (hc y7)
        have hG : ∀ (x y : Operand) u, (eqGuard .neq 22 x y (.agg #[.int .u8 (d.x0 : Int), .int .u8 (d.x1 : Int), .int .u8 (d.x2 : Int), .int .u8 (d.x3 : Int), .int .u8 (d.x4 : Int), .int .u8 (d.x5 : Int), .int .u8 (d.x6 : Int), .int .u8 (d.x7 : Int)]) (.agg #[.int .u8 (d'.x0 : Int), .int .u8 (d'.x1 : Int), .int .u8 (d'.x2 : Int), .int .u8 (d'.x3 : Int), .int .u8 (d'.x4 : Int), .int .u8 (d'.x5 : Int), .int .u8 (d'.x6 : Int), .int .u8 (d'.x7 : Int)])).run Tryz.prog u = .ok () u := fun x y u => by first | (go_simp; done) | exact run_eqGuard_agg _ _ _ _ _ _ (by kernel_rfl)
        have hE0 : ∀ u, (binOp .eql 22 (.agg #[.int .u8 (d.x0 : Int), .int .u8 (d.x1 : Int), .int .u8 (d.x2 : Int), .int .u8 (d.x3 : Int), .int .u8 (d.x4 : Int), .int .u8 (d.x5 : Int), .int .u8 (d.x6 : Int), .int .u8 (d.x7 : Int)]) (.agg #[.int .u8 (d'.x0 : Int), .int .u8 (d'.x1 : Int), .int .u8 (d'.x2 : Int), .int .u8 (d'.x3 : Int), .int .u8 (d'.x4 : Int), .int .u8 (d'.x5 : Int), .int .u8 (d'.x6 : Int), .int .u8 (d'.x7 : Int)])).run Tryz.prog u = .ok (.bool (sameD d d')) u := fun u => eql_digR _ _ _ _ _ _ _ _ _ _ _ _ _ _ _ _ u
        have hE := neq_frm hE0
        clear z0 z1 z2 z3 z4 z5 z6 z7 y0 y1 y2 y3 y4 y5 y6 y7 hE0 hd hd'
        go_upto_region 6 with fail
        refine wp_region_held_drew (S := fun w' => Below wr.heap.size wr w') (by kernel_rfl) ((Below.refl wr.heap.size wr).drew) (fun hHeld => ?_)
        rw [show Array.replicate _ false = (#[false, false, false, false, false, false, false, false, false] : Array Bool) from rfl]
        refine takeH 0 (some 17) (v := ?_) rfl (by kernel_rfl) (by kernel_rfl) (by kernel_rfl) (by kernel_rfl) (fun _ _ _ h => h) (Or.inl ⟨by kernel_rfl, ?hy⟩) (by assumption) ?_
        case hy =>
          intro w' hSw
          clear hSw
          first
            | (go_simp; done)
            | (go_simp; with_reducible rfl)
        simp only [Act.put, List.setIfInBounds_toArray, List.set_cons_zero, List.set_cons_succ]
        refine takeH 1 (some 18) (v := ?_) rfl (by kernel_rfl) (by kernel_rfl) (by kernel_rfl) (by kernel_rfl) (fun _ _ _ h => h) (Or.inl ⟨by kernel_rfl, ?hy⟩) (by assumption) ?_
        case hy =>
          intro w' hSw
          clear hSw
          first
            | (go_simp; done)
            | (go_simp; with_reducible rfl)
        simp only [Act.put, List.setIfInBounds_toArray, List.set_cons_zero, List.set_cons_succ]
        refine takeH 2 (some 19) (v := ?_) rfl (by kernel_rfl) (by kernel_rfl) (by kernel_rfl) (by kernel_rfl) (fun _ _ _ h => h) (Or.inl ⟨by kernel_rfl, ?hy⟩) (by assumption) ?_
        case hy =>
          intro w' hSw
          clear hSw
          first
            | (go_simp; done)
            | (go_simp; with_reducible rfl)
        simp only [Act.put, List.setIfInBounds_toArray, List.set_cons_zero, List.set_cons_succ]
        refine takeH 3 (some 20) (v := .agg #[.int .u8 (d.x0 : Int), .int .u8 (d.x1 : Int), .int .u8 (d.x2 : Int), .int .u8 (d.x3 : Int), .int .u8 (d.x4 : Int), .int .u8 (d.x5 : Int), .int .u8 (d.x6 : Int), .int .u8 (d.x7 : Int)]) rfl (by kernel_rfl) (by kernel_rfl) (by kernel_rfl) (by kernel_rfl) (fun _ _ _ h => h) (Or.inl ⟨by kernel_rfl, ?hy⟩) (by assumption) ?_
        case hy =>
          intro w' hSw
          simp [execOp, Act.eval, hM w' hSw, Result.andThen]
        simp only [Act.put, List.setIfInBounds_toArray, List.set_cons_zero, List.set_cons_succ]
        refine takeH 4 (some 21) (v := ?_) rfl (by kernel_rfl) (by kernel_rfl) (by kernel_rfl) (by kernel_rfl) (fun _ _ _ h => h) (Or.inl ⟨by kernel_rfl, ?hy⟩) (by assumption) ?_
        case hy =>
          intro w' hSw
          clear hSw
          first
            | (go_simp; done)
            | (go_simp; with_reducible rfl)
        simp only [Act.put, List.setIfInBounds_toArray, List.set_cons_zero, List.set_cons_succ]
        refine takeH 5 (some 22) (v := ?_) rfl (by kernel_rfl) (by kernel_rfl) (by kernel_rfl) (by kernel_rfl) (fun _ _ _ h => h) (Or.inl ⟨by kernel_rfl, ?hy⟩) (by assumption) ?_
        case hy =>
          intro w' hSw
          clear hSw
          first
            | (go_simp; done)
            | (go_simp; with_reducible rfl)
        simp only [Act.put, List.setIfInBounds_toArray, List.set_cons_zero, List.set_cons_succ]
        refine takeH 6 (some 23) (v := ?_) rfl (by kernel_rfl) (by kernel_rfl) (by kernel_rfl) (by kernel_rfl) (fun _ _ _ h => h) (Or.inl ⟨by kernel_rfl, ?hy⟩) (by assumption) ?_
        case hy =>
          intro w' hSw
          clear hSw
          first
            | (go_simp; done)
            | (go_simp; with_reducible rfl)
        simp only [Act.put, List.setIfInBounds_toArray, List.set_cons_zero, List.set_cons_succ]
        refine takeH 7 (some 24) (v := .agg #[.int .u8 (d'.x0 : Int), .int .u8 (d'.x1 : Int), .int .u8 (d'.x2 : Int), .int .u8 (d'.x3 : Int), .int .u8 (d'.x4 : Int), .int .u8 (d'.x5 : Int), .int .u8 (d'.x6 : Int), .int .u8 (d'.x7 : Int)]) rfl (by kernel_rfl) (by kernel_rfl) (by kernel_rfl) (by kernel_rfl) (fun _ _ _ h => h) (Or.inl ⟨by kernel_rfl, ?hy⟩) (by assumption) ?_
        case hy =>
          intro w' hSw
          simp [execOp, Act.eval, hM' w' hSw, Result.andThen]
        simp only [Act.put, List.setIfInBounds_toArray, List.set_cons_zero, List.set_cons_succ]
        cases hs : sameD d d' with
        | true =>
          rw [hs, show (!true) = false from rfl] at hE
          refine takeH 8 (some 25) (v := .bool false) rfl (by kernel_rfl) (by kernel_rfl) (by kernel_rfl) (by kernel_rfl) (fun _ _ _ h => h) (Or.inl ⟨by kernel_rfl, fun w' _ => exec_binD (by rfl) (by rfl) (by rfl) (hG _ _ w') (hE w')⟩) (by assumption) ?_
          simp only [Act.put, List.setIfInBounds_toArray, List.set_cons_zero, List.set_cons_succ]
          refine wpAnyH_done (by kernel_rfl) ?_ _
          have Hall2 : Hid (∀ j, j < k + 1 → sameD (L.getD j D8.zero) (M.getD j D8.zero) = true) := Lib.hid (fun j hj => by
            rcases Nat.lt_or_ge j k with h1 | h1
            · exact Hall.out j h1
            · obtain rfl : j = k := by omega
              rw [Hd.out, Hd'.out]; exact hs)
          clear hM hM' hG hE hs
          go_wp2
          go_roundw
          case rel => exact ⟨k + 1, Hk.out, by go_num, Hall2.out, Hbw.out.drew⟩
          case measure => have := Hk.out; simp [RowKit.intOf]; omega
        | false =>
          rw [hs, show (!false) = true from rfl] at hE
          refine takeH 8 (some 25) (v := .bool true) rfl (by kernel_rfl) (by kernel_rfl) (by kernel_rfl) (by kernel_rfl) (fun _ _ _ h => h) (Or.inl ⟨by kernel_rfl, fun w' _ => exec_binD (by rfl) (by rfl) (by rfl) (hG _ _ w') (hE w')⟩) (by assumption) ?_
          simp only [Act.put, List.setIfInBounds_toArray, List.set_cons_zero, List.set_cons_succ]
          refine wpAnyH_done (by kernel_rfl) ?_ _
          have Hno : Hid (decide (L = M) = false) := Lib.hid (listD_no (k := k) (by rw [Hd.out, Hd'.out]; exact hs))
          clear hM hM' hG hE hs
          go_wp2
          go_ret
          exact ⟨ret_bool Hno.out.symm, Hbw.out.drew⟩
      · obtain rfl : k = n := by omega
        have hd1 : decide ((k : Int) < (k : Int)) = false := by simp
        have Hyes : Hid (decide (L = M) = true) := Lib.hid (listD_yes (by rw [Hl.out, Hl'.out]) (fun j hj => Hall.out j (by rw [← Hl.out]; exact hj)))
        go_wp2
        go_ret
        exact ⟨ret_bool Hyes.out.symm, Hbw.out⟩
  · have d0 : ((n : Int) != (n' : Int)) = true := by simp; omega
    have Hno : Hid (decide (L = M) = false) := Lib.hid (decide_eq_false (fun e => hne (by rw [← Hl.out, ← Hl'.out, e])))
    go_enter Tryz.func97, Tryz.ntmps97
    go_wp2
    go_ret
    exact ⟨ret_bool Hno.out.symm, Below.refl _ _⟩
theorem info_T8g : (Tryz.prog.info? 22).map (fun i => (i.zero, i.size, i.bytes)) = some (some (.agg #[.int .u8 0, .int .u8 0, .int .u8 0, .int .u8 0, .int .u8 0, .int .u8 0, .int .u8 0, .int .u8 0]), 8, 8) := by kernel_rfl
theorem flat_take (L : List D8) {k : Nat} (hk : k < L.length) : flatD (L.take (k + 1)) = flatD (L.take k) ++ (L.getD k D8.zero).cells := by
  rw [List.take_add_one, List.getElem?_eq_getElem hk, List.getD_eq_getElem?_getD, List.getElem?_eq_getElem hk, Option.toList_some, flatD_append]
  simp [flatD]
set_option maxRecDepth 100000 in
set_option maxHeartbeats 4000000 in
theorem digests_any (A : Option Addr) (n c : Nat) (L : List D8) (w : World) (hr : Rd w w.heap.size 8 A n (flatD L)) (hn : n ≤ 1000000) :
    Calls Tryz.prog 54 #[.slice A n c] w fun e w' => ∃ A' c', e = .returned (.slice A' n c') ∧ w'.ownsRow w.heap.size 22 8 (.slice A' n c') n (flatD L) ∧ Below w.heap.size w w' := by
  obtain ⟨i0, hi, hz0, hz1, hz2⟩ := info_parts info_T8g
  have HI := Lib.hid (And.intro hi (And.intro hz0 (And.intro hz1 hz2))); clear hi hz0 hz1 hz2
  have Hl := Lib.hid hr.dlenD; have Hr := Lib.hid hr
  clear hr
  go_enter Tryz.func54, Tryz.ntmps54
  go_wp2
  go_loopw [3, 8] (fun s3 s8 wr => ∃ (k : Nat) (A' : Option Addr) (c' : Nat), k ≤ n ∧ s8 = .int .i64 (k : Int) ∧ s3 = .slice A' k c' ∧ wr.ownsRow w.heap.size 22 8 (.slice A' k c') k (flatD (L.take k)) ∧ Below w.heap.size w wr) (fun _ s8 _ => n - (RowKit.intOf s8).toNat)
  case atStart => exact ⟨0, none, 0, Nat.zero_le _, rfl, rfl, World.ownsRow_nil _ _ _ _, Below.refl _ _⟩
  case round =>
    obtain ⟨k, A', c', hk, rfl, rfl, ho, hb⟩ := hrel
    have HO := Lib.hid ho; have Hb := Lib.hid hb
    clear ho hb
    by_cases hlt : k < n
    · have hd1 : decide ((k : Int) < (n : Int)) = true := decide_eq_true (by omega)
      have hki : (k : Int) < (n : Int) := by omega
      have Hk := Lib.hid hlt
      obtain ⟨b, o, rfl, hbB, x0, x1, x2, x3, x4, x5, x6, x7⟩ := (Hr.out.below Hb.out (Nat.le_refl _)).di8 hlt
      have Hsn := Lib.hid (flat_take L (k := k) (by have := Hl.out; omega))
      generalize L.getD k D8.zero = q at *
      have hbw : b < wr.heap.size := by have := Hb.out.size; omega
      have HQ2 : Hid ((wr.alloc (.cells #[.int .u8 (q.x0 : Int), .int .u8 (q.x1 : Int), .int .u8 (q.x2 : Int), .int .u8 (q.x3 : Int), .int .u8 (q.x4 : Int), .int .u8 (q.x5 : Int), .int .u8 (q.x6 : Int), .int .u8 (q.x7 : Int)] 38)).heap[wr.heap.size]? = some (.cells #[.int .u8 (q.x0 : Int), .int .u8 (q.x1 : Int), .int .u8 (q.x2 : Int), .int .u8 (q.x3 : Int), .int .u8 (q.x4 : Int), .int .u8 (q.x5 : Int), .int .u8 (q.x6 : Int), .int .u8 (q.x7 : Int)] 38 (0, 0))) := heap_alloc_new wr _
      have HO2 := Lib.hid (HO.out.alloc (.cells #[.int .u8 (q.x0 : Int), .int .u8 (q.x1 : Int), .int .u8 (q.x2 : Int), .int .u8 (q.x3 : Int), .int .u8 (q.x4 : Int), .int .u8 (q.x5 : Int), .int .u8 (q.x6 : Int), .int .u8 (q.x7 : Int)] 38)); have Hb2 := Lib.hid (Hb.out.alloc Hb.out.size (.cells #[.int .u8 (q.x0 : Int), .int .u8 (q.x1 : Int), .int .u8 (q.x2 : Int), .int .u8 (q.x3 : Int), .int .u8 (q.x4 : Int), .int .u8 (q.x5 : Int), .int .u8 (q.x6 : Int), .int .u8 (q.x7 : Int)] 38))
      go_upto_region 5 with fail
      generalize wr.alloc (.cells #[.int .u8 (q.x0 : Int), .int .u8 (q.x1 : Int), .int .u8 (q.x2 : Int), .int .u8 (q.x3 : Int), .int .u8 (q.x4 : Int), .int .u8 (q.x5 : Int), .int .u8 (q.x6 : Int), .int .u8 (q.x7 : Int)] 38) = w2 at *
      clear x0 x1 x2 x3 x4 x5 x6 x7 HO Hb
      obtain ⟨zf, y0, y1, y2, y3, y4, y5, y6, y7⟩ := free8 HQ2.out
      have hlq := block_lt HQ2.out
      have HO3 := Lib.hid (HO2.out.alloc (.cells #[.int .u8 (q.x0 : Int), .int .u8 (q.x1 : Int), .int .u8 (q.x2 : Int), .int .u8 (q.x3 : Int), .int .u8 (q.x4 : Int), .int .u8 (q.x5 : Int), .int .u8 (q.x6 : Int), .int .u8 (q.x7 : Int)] 22))
      have HRl : Hid (Rd (w2.alloc (.cells #[.int .u8 (q.x0 : Int), .int .u8 (q.x1 : Int), .int .u8 (q.x2 : Int), .int .u8 (q.x3 : Int), .int .u8 (q.x4 : Int), .int .u8 (q.x5 : Int), .int .u8 (q.x6 : Int), .int .u8 (q.x7 : Int)] 22)) (w2.alloc (.cells #[.int .u8 (q.x0 : Int), .int .u8 (q.x1 : Int), .int .u8 (q.x2 : Int), .int .u8 (q.x3 : Int), .int .u8 (q.x4 : Int), .int .u8 (q.x5 : Int), .int .u8 (q.x6 : Int), .int .u8 (q.x7 : Int)] 22)).heap.size 8 (some ⟨w2.heap.size, 0, none⟩) 1 (flatD [q])) := Rd.newA (n := 1) (sz := 8) (xs := flatD [q]) w2 22 #[.int .u8 (q.x0 : Int), .int .u8 (q.x1 : Int), .int .u8 (q.x2 : Int), .int .u8 (q.x3 : Int), .int .u8 (q.x4 : Int), .int .u8 (q.x5 : Int), .int .u8 (q.x6 : Int), .int .u8 (q.x7 : Int)] rfl rfl
      have hbs : w.heap.size ≤ (w2.alloc (.cells #[.int .u8 (q.x0 : Int), .int .u8 (q.x1 : Int), .int .u8 (q.x2 : Int), .int .u8 (q.x3 : Int), .int .u8 (q.x4 : Int), .int .u8 (q.x5 : Int), .int .u8 (q.x6 : Int), .int .u8 (q.x7 : Int)] 22)).heap.size := by rw [World.size_alloc]; have := Hb2.out.size; omega
      clear zf
      go_wp2_with (at_builtin; go_must (refine wpList_append_rd (w2.alloc (.cells #[.int .u8 (q.x0 : Int), .int .u8 (q.x1 : Int), .int .u8 (q.x2 : Int), .int .u8 (q.x3 : Int), .int .u8 (q.x4 : Int), .int .u8 (q.x5 : Int), .int .u8 (q.x6 : Int), .int .u8 (q.x7 : Int)] 22)) (by rfl) _ _ 26 (by rfl) w.heap.size 22 i0 (.agg #[.int .u8 0, .int .u8 0, .int .u8 0, .int .u8 0, .int .u8 0, .int .u8 0, .int .u8 0, .int .u8 0]) 8 8 Tryz.underlying26 HI.out rfl (by decide) _ _ _ (by rfl) HO3.out (w2.alloc (.cells #[.int .u8 (q.x0 : Int), .int .u8 (q.x1 : Int), .int .u8 (q.x2 : Int), .int .u8 (q.x3 : Int), .int .u8 (q.x4 : Int), .int .u8 (q.x5 : Int), .int .u8 (q.x6 : Int), .int .u8 (q.x7 : Int)] 22)).heap.size (some ⟨w2.heap.size, 0, none⟩) 1 1 _ (by rfl) HRl.out (flatD_one _) (by omega) (by omega) hbs ?_); intro v4 w4 ho4 hb4; obtain ⟨A4, c4, rfl⟩ := own_form ho4; rw [show flatD [q] = q.cells from by simp [flatD], ← Hsn.out] at ho4; have HO4 := Lib.hid ho4; have Hb4 := Lib.hid ((Hb2.out.alloc Hb2.out.size (.cells #[.int .u8 (q.x0 : Int), .int .u8 (q.x1 : Int), .int .u8 (q.x2 : Int), .int .u8 (q.x3 : Int), .int .u8 (q.x4 : Int), .int .u8 (q.x5 : Int), .int .u8 (q.x6 : Int), .int .u8 (q.x7 : Int)] 22)).trans hb4); clear ho4 hb4)
      go_roundw
      case rel => exact ⟨k + 1, A4, c4, Hk.out, by go_num, by go_num, HO4.out, Hb4.out⟩
      case measure => have := Hk.out; simp [RowKit.intOf]; omega
    · obtain rfl : k = n := by omega
      have hd1 : decide ((k : Int) < (k : Int)) = false := by simp
      have htk : L.take k = L := List.take_of_length_le (by rw [Hl.out]; exact Nat.le_refl _)
      have ho := HO.out
      rw [htk] at ho
      have HOf := Lib.hid ho
      clear ho htk HO
      go_wp2
      go_ret
      exact ⟨A', c', rfl, HOf.out, Hb.out⟩
end Go.Proofs.YtmpklplojfjfbaaGreatDoor
namespace Go.Proofs.YtmpklplojfjfbaaGreatDoor
open Go.RowKit Go.Lib





theorem eql_zero8 : ∀ u, (binOp .eql 22 (.agg #[.int .u8 0, .int .u8 0, .int .u8 0, .int .u8 0, .int .u8 0, .int .u8 0, .int .u8 0, .int .u8 0]) (.agg #[.int .u8 0, .int .u8 0, .int .u8 0, .int .u8 0, .int .u8 0, .int .u8 0, .int .u8 0, .int .u8 0])).run Tryz.prog u = .ok (.bool true) u := fun u => eql_digR _ _ _ _ _ _ _ _ _ _ _ _ _ _ _ _ u
set_option maxRecDepth 100000 in
set_option maxHeartbeats 4000000 in
theorem same06_any (A A' : Option Addr) (n c n' c' : Nat) (L M : List D8) (w : World) (hr : Rd w w.heap.size 8 A n (flatD L)) (hr' : Rd w w.heap.size 8 A' n' (flatD M)) (hn : n ≤ 1000000) :
    Calls Tryz.prog 56 #[.agg #[.int .u8 0, .int .u8 0, .int .u8 0, .int .u8 0, .int .u8 0, .int .u8 0, .int .u8 0, .int .u8 0, .int .i64 0, (.slice A n c)], .agg #[.int .u8 0, .int .u8 0, .int .u8 0, .int .u8 0, .int .u8 0, .int .u8 0, .int .u8 0, .int .u8 0, .int .i64 0, (.slice A' n' c')]] w fun e w' => e = .returned (.bool (decide (L = M))) ∧ Below w.heap.size w w' := by
  obtain ⟨ha0, hb0, hw0, hz0⟩ := alloc2 w (.cells #[.int .u8 0, .int .u8 0, .int .u8 0, .int .u8 0, .int .u8 0, .int .u8 0, .int .u8 0, .int .u8 0, .int .i64 0, (.slice A n c)] 28) (.cells #[.int .u8 0, .int .u8 0, .int .u8 0, .int .u8 0, .int .u8 0, .int .u8 0, .int .u8 0, .int .u8 0, .int .i64 0, (.slice A' n' c')] 28)
  have HA0 := Lib.hid ha0; have HB0 := Lib.hid hb0; have Hw0 := Lib.hid hw0
  have HS := Lib.hid (fun (u : World) (hb : Below w.heap.size w u) => same4_any A A' n c n' c' L M u ((hr.below hb (Nat.le_refl _)).more hb.size) ((hr'.below hb (Nat.le_refl _)).more hb.size) hn)
  clear hr hr' ha0 hb0 hw0 hz0
  go_enter Tryz.func56, Tryz.ntmps56
  go_upto_region 1 with fail
  generalize (w.alloc (.cells #[.int .u8 0, .int .u8 0, .int .u8 0, .int .u8 0, .int .u8 0, .int .u8 0, .int .u8 0, .int .u8 0, .int .i64 0, (.slice A n c)] 28)).alloc (.cells #[.int .u8 0, .int .u8 0, .int .u8 0, .int .u8 0, .int .u8 0, .int .u8 0, .int .u8 0, .int .u8 0, .int .i64 0, (.slice A' n' c')] 28) = v0 at *
  have he := eql_zero8
  have a0 : v0.cell? ⟨w.heap.size, 0, none⟩ = some (.int .u8 0) := (block_cell HA0.out 0).trans rfl
  have a1 : v0.cell? ⟨w.heap.size, 1, none⟩ = some (.int .u8 0) := (block_cell HA0.out 1).trans rfl
  have a2 : v0.cell? ⟨w.heap.size, 2, none⟩ = some (.int .u8 0) := (block_cell HA0.out 2).trans rfl
  have a3 : v0.cell? ⟨w.heap.size, 3, none⟩ = some (.int .u8 0) := (block_cell HA0.out 3).trans rfl
  have a4 : v0.cell? ⟨w.heap.size, 4, none⟩ = some (.int .u8 0) := (block_cell HA0.out 4).trans rfl
  have a5 : v0.cell? ⟨w.heap.size, 5, none⟩ = some (.int .u8 0) := (block_cell HA0.out 5).trans rfl
  have a6 : v0.cell? ⟨w.heap.size, 6, none⟩ = some (.int .u8 0) := (block_cell HA0.out 6).trans rfl
  have a7 : v0.cell? ⟨w.heap.size, 7, none⟩ = some (.int .u8 0) := (block_cell HA0.out 7).trans rfl
  have a8 : v0.cell? ⟨w.heap.size, 8, none⟩ = some (.int .i64 0) := (block_cell HA0.out 8).trans rfl
  have a9 : v0.cell? ⟨w.heap.size, 9, none⟩ = some (.slice A n c) := (block_cell HA0.out 9).trans rfl
  have b0 : v0.cell? ⟨w.heap.size + 1, 0, none⟩ = some (.int .u8 0) := (block_cell HB0.out 0).trans rfl
  have b1 : v0.cell? ⟨w.heap.size + 1, 1, none⟩ = some (.int .u8 0) := (block_cell HB0.out 1).trans rfl
  have b2 : v0.cell? ⟨w.heap.size + 1, 2, none⟩ = some (.int .u8 0) := (block_cell HB0.out 2).trans rfl
  have b3 : v0.cell? ⟨w.heap.size + 1, 3, none⟩ = some (.int .u8 0) := (block_cell HB0.out 3).trans rfl
  have b4 : v0.cell? ⟨w.heap.size + 1, 4, none⟩ = some (.int .u8 0) := (block_cell HB0.out 4).trans rfl
  have b5 : v0.cell? ⟨w.heap.size + 1, 5, none⟩ = some (.int .u8 0) := (block_cell HB0.out 5).trans rfl
  have b6 : v0.cell? ⟨w.heap.size + 1, 6, none⟩ = some (.int .u8 0) := (block_cell HB0.out 6).trans rfl
  have b7 : v0.cell? ⟨w.heap.size + 1, 7, none⟩ = some (.int .u8 0) := (block_cell HB0.out 7).trans rfl
  have b8 : v0.cell? ⟨w.heap.size + 1, 8, none⟩ = some (.int .i64 0) := (block_cell HB0.out 8).trans rfl
  have b9 : v0.cell? ⟨w.heap.size + 1, 9, none⟩ = some (.slice A' n' c') := (block_cell HB0.out 9).trans rfl
  have hl0 := block_lt HA0.out; have hl1 := block_lt HB0.out
  go_wp2_with fail
  refine (HS.out v0 Hw0.out).mono ?_
  rintro e v1 ⟨rfl, hb1⟩
  have Hw1 := Lib.hid (Hw0.out.trans (hb1.mono Hw0.out.size))
  generalize hdd : decide (L = M) = dd at *
  have Hdd := Lib.hid hdd
  clear hb1 hdd a0 a1 a2 a3 a4 a5 a6 a7 a8 a9 b0 b1 b2 b3 b4 b5 b6 b7 b8 b9 he
  go_wp2
  go_ret
  exact ⟨ret_bool (by rw [Hdd.out]), Hw1.out⟩
end Go.Proofs.YtmpklplojfjfbaaGreatDoor
namespace Go.Proofs.YtmpklplojfjfbaaGreatDoor
open Go.RowKit Go.Lib



set_option maxRecDepth 100000 in
set_option maxHeartbeats 2000000 in
theorem ledger_any {w : World} {B : Nat} {F : Nat → Prop} {br mb h : Nat} {s : D8} {pt : Value} {L : List D8} (l : LedAt w B F br mb s h pt L) (hL : L.length ≤ 1000) :
    Calls Tryz.prog 55 #[.pointer (some ⟨br, 0, none⟩)] w fun e w' => ∃ A c, e = .returned (.slice A L.length c) ∧ w'.ownsRow w.heap.size 38 8 (.slice A L.length c) L.length (flatD L) ∧ Below w.heap.size w w' := by
  obtain ⟨A, c, hb, ho, hg⟩ := l.cells
  obtain ⟨yf, y0, y1, y2, y3, y4, y5, y6, y7, y8, y9, y10, y11⟩ := freeR hb
  have hpb := block_lt hb
  have Hr := Lib.hid (Rd.of_own ho)
  have Hc := Lib.hid (sdclone_any L A L.length c w Hr.out (by omega))
  clear yf y0 y1 y2 y3 y4 y5 y6 y7 y8 y9 y11 ho hg hb
  go_enter Tryz.func55, Tryz.ntmps55
  go_wp2_with fail
  refine Hc.out.mono ?_
  rintro r w1 ⟨A', c', rfl, ho, hb⟩
  have Ho := Lib.hid ho; have Hb := Lib.hid hb
  clear ho hb
  go_wp2
  go_ret
  exact ⟨A', c', rfl, Ho.out, Hb.out⟩
end Go.Proofs.YtmpklplojfjfbaaGreatDoor
namespace Go.Proofs.YtmpklplojfjfbaaGreatDoor
open Go.RowKit Go.Lib





set_option maxRecDepth 100000 in
set_option maxHeartbeats 8000000 in
theorem toldl_yes {w : World} {B : Nat} {F : Nat → Prop} {T0 T1 br : Nat} {r : RingM} (a : RingAt w B F T0 T1 br r) (s : D8) (A : Option Addr) (n c : Nat) (hr : Rd w w.heap.size 8 A n (flatD r.led)) :
    Calls Tryz.prog 22 #[.pointer (some ⟨br, 0, none⟩), .agg #[.int .u8 (s.x0 : Int), .int .u8 (s.x1 : Int), .int .u8 (s.x2 : Int), .int .u8 (s.x3 : Int), .int .u8 (s.x4 : Int), .int .u8 (s.x5 : Int), .int .u8 (s.x6 : Int), .int .u8 (s.x7 : Int), .int .i64 (r.h : Int), (.slice A n c)]] w fun e w' => e = .returned (.bool true) ∧ Below w.heap.size w w' := by
  have HS0 : Hid ((w.alloc (.cells #[.int .u8 (s.x0 : Int), .int .u8 (s.x1 : Int), .int .u8 (s.x2 : Int), .int .u8 (s.x3 : Int), .int .u8 (s.x4 : Int), .int .u8 (s.x5 : Int), .int .u8 (s.x6 : Int), .int .u8 (s.x7 : Int), .int .i64 (r.h : Int), (.slice A n c)] 28)).heap[w.heap.size]? = some (.cells #[.int .u8 (s.x0 : Int), .int .u8 (s.x1 : Int), .int .u8 (s.x2 : Int), .int .u8 (s.x3 : Int), .int .u8 (s.x4 : Int), .int .u8 (s.x5 : Int), .int .u8 (s.x6 : Int), .int .u8 (s.x7 : Int), .int .i64 (r.h : Int), (.slice A n c)] 28 (0, 0))) := heap_alloc_new w _
  have Hw0 := Lib.hid (h_one w (.cells #[.int .u8 (s.x0 : Int), .int .u8 (s.x1 : Int), .int .u8 (s.x2 : Int), .int .u8 (s.x3 : Int), .int .u8 (s.x4 : Int), .int .u8 (s.x5 : Int), .int .u8 (s.x6 : Int), .int .u8 (s.x7 : Int), .int .i64 (r.h : Int), (.slice A n c)] 28))
  have HA0 := Lib.hid (a.below Hw0.out)
  have Hl := Lib.hid hr.dlenD; have Hr := Lib.hid hr
  have hok := a.ok
  have hp := pow_le8 hok.2.1
  have hle := hok.2.2.2.2
  have Hh := Lib.hid hok.2.1
  obtain ⟨N, hN⟩ : ∃ N, N = 2 ^ r.h := ⟨_, rfl⟩
  rw [← hN] at hp hle
  have HN := Lib.hid hN
  have hnl : n = r.led.length := Hl.out.symm
  have hnN : n ≤ N := by omega
  have Hnl := Lib.hid hnl
  clear a hr hok hN hle hnl
  go_enter Tryz.func22, Tryz.ntmps22
  go_upto_region 1 with fail
  generalize w.alloc (.cells #[.int .u8 (s.x0 : Int), .int .u8 (s.x1 : Int), .int .u8 (s.x2 : Int), .int .u8 (s.x3 : Int), .int .u8 (s.x4 : Int), .int .u8 (s.x5 : Int), .int .u8 (s.x6 : Int), .int .u8 (s.x7 : Int), .int .i64 (r.h : Int), (.slice A n c)] 28) = v0 at *
  go_wp2_with fail
  refine (ledger_any (HA0.out.led.choose_spec.choose_spec.1) (by have := Hnl.out; omega)).mono ?_
  rintro e v1 ⟨A1, c1, rfl, ho1, hb1⟩
  rw [← Hnl.out] at ho1 ⊢
  have HA1 := Lib.hid (HA0.out.below hb1); have HS1 := Lib.hid (block_below HS0.out hb1 (block_lt HS0.out)); have Hw1 := Lib.hid (Hw0.out.trans (hb1.mono Hw0.out.size)); have Hr1 := Lib.hid (Rd.of_own ho1)
  clear ho1 hb1 HA0 HS0 Hw0
  go_wp2_with fail
  refine (digests_any A1 n c1 r.led v1 Hr1.out (by omega)).mono ?_
  rintro e v2 ⟨A2, c2, rfl, ho2, hb2⟩
  have HA2 := Lib.hid (HA1.out.below hb2); have HS2 := Lib.hid (block_below HS1.out hb2 (block_lt HS1.out)); have Hw2 := Lib.hid (Hw1.out.trans (hb2.mono Hw1.out.size)); have HO2 := Lib.hid (Rd.of_own ho2)
  clear ho2 hb2 HA1 HS1 Hw1 Hr1
  have hlb := block_lt HS2.out
  have hSl : ∀ w', Below v2.heap.size v2 w' → w'.cell? ⟨w.heap.size, 9, none⟩ = some (.slice A n c) := fun w' hx => (block_cell (block_below HS2.out hx hlb) 9).trans rfl
  have hHt : ∀ w', Below v2.heap.size v2 w' → w'.cell? ⟨w.heap.size, 8, none⟩ = some (.int .i64 (r.h : Int)) := fun w' hx => (block_cell (block_below HS2.out hx hlb) 8).trans rfl
  have hw1 : wrap64 ((N : Int) - (n : Int)) = ((N - n : Nat) : Int) := by simp only [wrap64]; omega
  have hw2 : IntKind.i64.wrap ((N : Int) - (n : Int)) = ((N - n : Nat) : Int) := by rw [IntKind.wrap_i64]; omega
  go_upto_region 2 with fail
  refine wp_region_held_drew (S := fun w' => Below v2.heap.size v2 w') (by kernel_rfl) ((Below.refl v2.heap.size v2).drew) (fun hHeld => ?_)
  rw [show Array.replicate _ false = (#[false, false, false, false, false, false, false, false, false, false, false, false, false, false, false, false, false, false, false, false, false, false, false, false, false, false, false] : Array Bool) from rfl]
  refine takeH 0 (some 9) (v := ?_) rfl (by kernel_rfl) (by kernel_rfl) (by kernel_rfl) (by kernel_rfl) (fun _ _ _ h => h) (Or.inl ⟨by kernel_rfl, ?hy⟩) (by assumption) ?_
  case hy =>
    intro w' hSw
    clear hSw
    first
      | (go_simp; done)
      | (go_simp; with_reducible rfl)
  simp only [Act.put, List.setIfInBounds_toArray, List.set_cons_zero, List.set_cons_succ]
  refine takeH 1 (some 10) (v := ?_) rfl (by kernel_rfl) (by kernel_rfl) (by kernel_rfl) (by kernel_rfl) (fun _ _ _ h => h) (Or.inl ⟨by kernel_rfl, ?hy⟩) (by assumption) ?_
  case hy =>
    intro w' hSw
    clear hSw
    first
      | (go_simp; done)
      | (go_simp; with_reducible rfl)
  simp only [Act.put, List.setIfInBounds_toArray, List.set_cons_zero, List.set_cons_succ]
  refine takeH 2 (some 11) (v := ?_) rfl (by kernel_rfl) (by kernel_rfl) (by kernel_rfl) (by kernel_rfl) (fun _ _ _ h => h) (Or.inl ⟨by kernel_rfl, ?hy⟩) (by assumption) ?_
  case hy =>
    intro w' hSw
    clear hSw
    first
      | (go_simp; done)
      | (go_simp; with_reducible rfl)
  simp only [Act.put, List.setIfInBounds_toArray, List.set_cons_zero, List.set_cons_succ]
  refine takeH 3 (some 12) (v := ?_) rfl (by kernel_rfl) (by kernel_rfl) (by kernel_rfl) (by kernel_rfl) (fun _ _ _ h => h) (Or.inl ⟨by kernel_rfl, ?hy⟩) (by assumption) ?_
  case hy =>
    intro w' hSw
    have hx := hSl w' hSw
    clear hSw
    first
      | (go_simp; done)
      | (go_simp; with_reducible rfl)
  simp only [Act.put, List.setIfInBounds_toArray, List.set_cons_zero, List.set_cons_succ]
  refine takeH 4 (some 13) (v := ?_) rfl (by kernel_rfl) (by kernel_rfl) (by kernel_rfl) (by kernel_rfl) (fun _ _ _ h => h) (Or.inl ⟨by kernel_rfl, ?hy⟩) (by assumption) ?_
  case hy =>
    intro w' hSw
    clear hSw
    first
      | (go_simp; done)
      | (go_simp; with_reducible rfl)
  simp only [Act.put, List.setIfInBounds_toArray, List.set_cons_zero, List.set_cons_succ]
  have hbd := (Below.refl v2.heap.size v2).drew
  have HOd := Lib.hid ((HO2.out.below hbd (Nat.le_refl _)).more hbd.size); have HRd := Lib.hid ((Hr.out.below (Hw2.out.drew) (Nat.le_refl _)).more Hw2.out.drew.size)
  have HAd := Lib.hid (HA2.out.below hbd)
  refine wpAnyH_ready (rs := [5]) (by kernel_rfl) (by simp) ?_
  refine AllReadyH.cons rfl (fun K hK => ?_) AllReadyH.nil
  rw [if_pos (by kernel_rfl)]
  go_simp
  refine (same06_any A2 A n c2 n c r.led r.led v2.drew HOd.out HRd.out (by omega)).mono ?_
  rintro e v3 ⟨rfl, hb3⟩
  rw [show decide (r.led = r.led) = true from decide_eq_true rfl]
  have HS3 := Lib.hid (hbd.trans (hb3.mono hbd.size)); have HA3 := Lib.hid (HAd.out.below hb3)
  clear hb3 hbd HOd HRd HAd
  refine hK.out _ _ HS3.out (fun _ => ?_)
  clear hK K
  simp only [List.setIfInBounds_toArray, List.set_cons_zero, List.set_cons_succ]
  have hS3 := HS3.out
  refine takeH 6 (some 15) (v := ?_) rfl (by kernel_rfl) (by kernel_rfl) (by kernel_rfl) (by kernel_rfl) (fun _ _ _ h => h) (Or.inl ⟨by kernel_rfl, ?hy⟩) (by assumption) ?_
  case hy =>
    intro w' hSw
    clear hSw
    first
      | (go_simp; done)
      | (go_simp; with_reducible rfl)
  simp only [Act.put, List.setIfInBounds_toArray, List.set_cons_zero, List.set_cons_succ]
  refine takeH 7 (some 16) (v := ?_) rfl (by kernel_rfl) (by kernel_rfl) (by kernel_rfl) (by kernel_rfl) (fun _ _ _ h => h) (Or.inl ⟨by kernel_rfl, ?hy⟩) (by assumption) ?_
  case hy =>
    intro w' hSw
    clear hSw
    first
      | (go_simp; done)
      | (go_simp; with_reducible rfl)
  simp only [Act.put, List.setIfInBounds_toArray, List.set_cons_zero, List.set_cons_succ]
  refine takeH 9 (some 18) (v := ?_) rfl (by kernel_rfl) (by kernel_rfl) (by kernel_rfl) (by kernel_rfl) (fun _ _ _ h => h) (Or.inl ⟨by kernel_rfl, ?hy⟩) (by assumption) ?_
  case hy =>
    intro w' hSw
    clear hSw
    first
      | (go_simp; done)
      | (go_simp; with_reducible rfl)
  simp only [Act.put, List.setIfInBounds_toArray, List.set_cons_zero, List.set_cons_succ]
  refine takeH 10 (some 19) (v := ?_) rfl (by kernel_rfl) (by kernel_rfl) (by kernel_rfl) (by kernel_rfl) (fun _ _ _ h => h) (Or.inl ⟨by kernel_rfl, ?hy⟩) (by assumption) ?_
  case hy =>
    intro w' hSw
    have hx := hSl w' hSw
    clear hSw
    first
      | (go_simp; done)
      | (go_simp; with_reducible rfl)
  simp only [Act.put, List.setIfInBounds_toArray, List.set_cons_zero, List.set_cons_succ]
  refine takeH 11 (some 20) (v := ?_) rfl (by kernel_rfl) (by kernel_rfl) (by kernel_rfl) (by kernel_rfl) (fun _ _ _ h => h) (Or.inl ⟨by kernel_rfl, ?hy⟩) (by assumption) ?_
  case hy =>
    intro w' hSw
    clear hSw
    first
      | (go_simp; done)
      | (go_simp; with_reducible rfl)
  simp only [Act.put, List.setIfInBounds_toArray, List.set_cons_zero, List.set_cons_succ]
  refine wpAnyH_ready (rs := [8]) (by kernel_rfl) (by simp) ?_
  refine AllReadyH.cons rfl (fun K hK => ?_) AllReadyH.nil
  rw [if_pos (by kernel_rfl)]
  go_simp
  refine (used_led (HA3.out.led.choose_spec.choose_spec.1)).mono ?_
  rintro e v4 ⟨rfl, hb4⟩
  rw [← Hnl.out]
  have HS4 := Lib.hid (HS3.out.trans (hb4.mono HS3.out.size)); have HA4 := Lib.hid (HA3.out.below hb4)
  clear hb4 hS3 HS3 HA3
  refine hK.out _ _ HS4.out (fun _ => ?_)
  clear hK K
  simp only [List.setIfInBounds_toArray, List.set_cons_zero, List.set_cons_succ]
  have hS4 := HS4.out
  refine takeH 12 (some 21) (v := ?_) rfl (by kernel_rfl) (by kernel_rfl) (by kernel_rfl) (by kernel_rfl) (fun _ _ _ h => h) (Or.inl ⟨by kernel_rfl, ?hy⟩) (by assumption) ?_
  case hy =>
    intro w' hSw
    clear hSw
    first
      | (go_simp; done)
      | (go_simp; with_reducible rfl)
  simp only [Act.put, List.setIfInBounds_toArray, List.set_cons_zero, List.set_cons_succ]
  refine takeH 13 (some 22) (v := ?_) rfl (by kernel_rfl) (by kernel_rfl) (by kernel_rfl) (by kernel_rfl) (fun _ _ _ h => h) (Or.inl ⟨by kernel_rfl, ?hy⟩) (by assumption) ?_
  case hy =>
    intro w' hSw
    clear hSw
    first
      | (go_simp; done)
      | (go_simp; with_reducible rfl)
  simp only [Act.put, List.setIfInBounds_toArray, List.set_cons_zero, List.set_cons_succ]
  refine takeH 14 (some 23) (v := ?_) rfl (by kernel_rfl) (by kernel_rfl) (by kernel_rfl) (by kernel_rfl) (fun _ _ _ h => h) (Or.inl ⟨by kernel_rfl, ?hy⟩) (by assumption) ?_
  case hy =>
    intro w' hSw
    clear hSw
    first
      | (go_simp; done)
      | (go_simp; with_reducible rfl)
  simp only [Act.put, List.setIfInBounds_toArray, List.set_cons_zero, List.set_cons_succ]
  refine takeH 15 (some 24) (v := ?_) rfl (by kernel_rfl) (by kernel_rfl) (by kernel_rfl) (by kernel_rfl) (fun _ _ _ h => h) (Or.inl ⟨by kernel_rfl, ?hy⟩) (by assumption) ?_
  case hy =>
    intro w' hSw
    clear hSw
    first
      | (go_simp; done)
      | (go_simp; with_reducible rfl)
  simp only [Act.put, List.setIfInBounds_toArray, List.set_cons_zero, List.set_cons_succ]
  refine takeH 17 (some 26) (v := ?_) rfl (by kernel_rfl) (by kernel_rfl) (by kernel_rfl) (by kernel_rfl) (fun _ _ _ h => h) (Or.inl ⟨by kernel_rfl, ?hy⟩) (by assumption) ?_
  case hy =>
    intro w' hSw
    clear hSw
    first
      | (go_simp; done)
      | (go_simp; with_reducible rfl)
  simp only [Act.put, List.setIfInBounds_toArray, List.set_cons_zero, List.set_cons_succ]
  refine takeH 18 (some 27) (v := ?_) rfl (by kernel_rfl) (by kernel_rfl) (by kernel_rfl) (by kernel_rfl) (fun _ _ _ h => h) (Or.inl ⟨by kernel_rfl, ?hy⟩) (by assumption) ?_
  case hy =>
    intro w' hSw
    have hx := hHt w' hSw
    clear hSw
    first
      | (go_simp; done)
      | (go_simp; with_reducible rfl)
  simp only [Act.put, List.setIfInBounds_toArray, List.set_cons_zero, List.set_cons_succ]
  refine takeH 20 (some 29) (v := ?_) rfl (by kernel_rfl) (by kernel_rfl) (by kernel_rfl) (by kernel_rfl) (fun _ _ _ h => h) (Or.inl ⟨by kernel_rfl, ?hy⟩) (by assumption) ?_
  case hy =>
    intro w' hSw
    clear hSw
    first
      | (go_simp; done)
      | (go_simp; with_reducible rfl)
  simp only [Act.put, List.setIfInBounds_toArray, List.set_cons_zero, List.set_cons_succ]
  refine takeH 21 (some 30) (v := ?_) rfl (by kernel_rfl) (by kernel_rfl) (by kernel_rfl) (by kernel_rfl) (fun _ _ _ h => h) (Or.inl ⟨by kernel_rfl, ?hy⟩) (by assumption) ?_
  case hy =>
    intro w' hSw
    have hx := hSl w' hSw
    clear hSw
    first
      | (go_simp; done)
      | (go_simp; with_reducible rfl)
  simp only [Act.put, List.setIfInBounds_toArray, List.set_cons_zero, List.set_cons_succ]
  refine takeH 22 (some 31) (v := ?_) rfl (by kernel_rfl) (by kernel_rfl) (by kernel_rfl) (by kernel_rfl) (fun _ _ _ h => h) (Or.inl ⟨by kernel_rfl, ?hy⟩) (by assumption) ?_
  case hy =>
    intro w' hSw
    clear hSw
    first
      | (go_simp; done)
      | (go_simp; with_reducible rfl)
  simp only [Act.put, List.setIfInBounds_toArray, List.set_cons_zero, List.set_cons_succ]
  refine wpAnyH_ready (rs := [16]) (by kernel_rfl) (by simp) ?_
  refine AllReadyH.cons rfl (fun K hK => ?_) AllReadyH.nil
  rw [if_pos (by kernel_rfl)]
  go_simp
  refine (left_led (HA4.out.led.choose_spec.choose_spec.1) Hh.out (by rw [← HN.out, ← Hnl.out]; exact hnN)).mono ?_
  rintro e v5 ⟨rfl, hb5⟩
  rw [← HN.out, ← Hnl.out]
  have HS5 := Lib.hid (HS4.out.trans (hb5.mono HS4.out.size))
  clear hb5 hS4 HS4 HA4
  refine hK.out _ _ HS5.out (fun _ => ?_)
  clear hK K
  simp only [List.setIfInBounds_toArray, List.set_cons_zero, List.set_cons_succ]
  have hS5 := HS5.out
  refine wpAnyH_ready (rs := [19]) (by kernel_rfl) (by simp) ?_
  refine AllReadyH.cons rfl (fun K hK => ?_) AllReadyH.nil
  rw [if_pos (by kernel_rfl)]
  go_simp
  refine (manyr_any r.h v5 Hh.out).mono ?_
  rintro e v6 ⟨rfl, rfl⟩
  rw [← HN.out]
  refine hK.out _ _ hS5 (fun _ => ?_)
  clear hK K
  simp only [List.setIfInBounds_toArray, List.set_cons_zero, List.set_cons_succ]
  refine takeH 23 (some 32) (v := ?_) rfl (by kernel_rfl) (by kernel_rfl) (by kernel_rfl) (by kernel_rfl) (fun _ _ _ h => h) (Or.inl ⟨by kernel_rfl, ?hy⟩) (by assumption) ?_
  case hy =>
    intro w' hSw
    clear hSw
    first
      | (go_simp; done)
      | (go_simp; with_reducible rfl)
  simp only [Act.put, List.setIfInBounds_toArray, List.set_cons_zero, List.set_cons_succ]
  refine takeH 24 (some 33) (v := ?_) rfl (by kernel_rfl) (by kernel_rfl) (by kernel_rfl) (by kernel_rfl) (fun _ _ _ h => h) (Or.inl ⟨by kernel_rfl, ?hy⟩) (by assumption) ?_
  case hy =>
    intro w' hSw
    clear hSw
    first
      | (go_simp; done)
      | (go_simp; with_reducible rfl)
  simp only [Act.put, List.setIfInBounds_toArray, List.set_cons_zero, List.set_cons_succ]
  refine takeH 25 (some 34) (v := ?_) rfl (by kernel_rfl) (by kernel_rfl) (by kernel_rfl) (by kernel_rfl) (fun _ _ _ h => h) (Or.inl ⟨by kernel_rfl, ?hy⟩) (by assumption) ?_
  case hy =>
    intro w' hSw
    clear hSw
    first
      | (go_simp; done)
      | (go_simp; with_reducible rfl)
  simp only [Act.put, List.setIfInBounds_toArray, List.set_cons_zero, List.set_cons_succ]
  refine takeH 26 (some 4) (v := ?_) rfl (by kernel_rfl) (by kernel_rfl) (by kernel_rfl) (by kernel_rfl) (fun _ _ _ h => h) (Or.inl ⟨by kernel_rfl, ?hy⟩) (by assumption) ?_
  case hy =>
    intro w' hSw
    clear hSw
    first
      | (go_simp; done)
      | (go_simp; with_reducible rfl)
  simp only [Act.put, List.setIfInBounds_toArray, List.set_cons_zero, List.set_cons_succ]
  refine wpAnyH_done (by kernel_rfl) ?_ _
  have Hw6 := Lib.hid (Hw2.out.trans (HS5.out.mono Hw2.out.size))
  clear hSl hHt hS5
  go_wp2
  go_ret
  exact ⟨rfl, Hw6.out⟩
end Go.Proofs.YtmpklplojfjfbaaGreatDoor
