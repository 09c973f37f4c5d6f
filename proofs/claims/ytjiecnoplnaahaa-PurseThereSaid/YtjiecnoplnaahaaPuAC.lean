/- The walk of the reference's Same of two purses. Conditions: bounds. -/
import Derived.Test.YtjiecnoplnaahaaPuS
import Derived.Test.YtjiecnoplnaahaaPuV
import Derived.RegionTactic
namespace Go.Proofs.Ytjiecnoplnaahaa
open Go.RowKit Go.Lib


theorem neq_two (x0 x1 y0 y1 : Int) (w : World) : (binOp .neq 23 (.agg #[.int .i64 x0, .int .i64 x1]) (.agg #[.int .i64 y0, .int .i64 y1])).run Try.prog w = .ok (.bool (!eqI [x0, x1] [y0, y1])) w := by
  obtain ⟨i, hi⟩ := info_intsome
  rw [run_neq_struct, show (10000 : Nat) = 9998 + 2 from rfl]
  have := eqArr Try.underlying23 hi cells_int isAgg_int Try.underlying3 [x0, x1] [y0, y1] rfl rfl 9998 w
  simp only [List.map_cons, List.map_nil] at this
  rw [this]; rfl
set_option maxRecDepth 100000 in
set_option maxHeartbeats 4000000 in
theorem samer_any (p q : Pu) (A A' : Option Addr) (n c n' c' : Nat) (w : World) (h : PuV.At p A n c w) (h' : PuV.At q A' n' c' w) :
    Calls Try.prog 18 #[.agg #[.int .u8 (p.nm.x0 : Int), .int .u8 (p.nm.x1 : Int), .int .u8 (p.nm.x2 : Int), .int .u8 (p.nm.x3 : Int), .int .u8 (p.nm.x4 : Int), .int .u8 (p.nm.x5 : Int), .int .u8 (p.nm.x6 : Int), .int .u8 (p.nm.x7 : Int), .int .i64 p.no, .int .i64 p.h0, .int .i64 p.h1, .slice A n c], .agg #[.int .u8 (q.nm.x0 : Int), .int .u8 (q.nm.x1 : Int), .int .u8 (q.nm.x2 : Int), .int .u8 (q.nm.x3 : Int), .int .u8 (q.nm.x4 : Int), .int .u8 (q.nm.x5 : Int), .int .u8 (q.nm.x6 : Int), .int .u8 (q.nm.x7 : Int), .int .i64 q.no, .int .i64 q.h0, .int .i64 q.h1, .slice A' n' c']] w fun e w' => e = .returned (.bool (p.same q)) ∧ Below w.heap.size w w' := by
  have Hw := Lib.hid (below_two w (.cells #[.int .u8 (p.nm.x0 : Int), .int .u8 (p.nm.x1 : Int), .int .u8 (p.nm.x2 : Int), .int .u8 (p.nm.x3 : Int), .int .u8 (p.nm.x4 : Int), .int .u8 (p.nm.x5 : Int), .int .u8 (p.nm.x6 : Int), .int .u8 (p.nm.x7 : Int), .int .i64 p.no, .int .i64 p.h0, .int .i64 p.h1, .slice A n c] 26) (.cells #[.int .u8 (q.nm.x0 : Int), .int .u8 (q.nm.x1 : Int), .int .u8 (q.nm.x2 : Int), .int .u8 (q.nm.x3 : Int), .int .u8 (q.nm.x4 : Int), .int .u8 (q.nm.x5 : Int), .int .u8 (q.nm.x6 : Int), .int .u8 (q.nm.x7 : Int), .int .i64 q.no, .int .i64 q.h0, .int .i64 q.h1, .slice A' n' c'] 26))
  have HT : Hid (((w.alloc (.cells #[.int .u8 (p.nm.x0 : Int), .int .u8 (p.nm.x1 : Int), .int .u8 (p.nm.x2 : Int), .int .u8 (p.nm.x3 : Int), .int .u8 (p.nm.x4 : Int), .int .u8 (p.nm.x5 : Int), .int .u8 (p.nm.x6 : Int), .int .u8 (p.nm.x7 : Int), .int .i64 p.no, .int .i64 p.h0, .int .i64 p.h1, .slice A n c] 26)).alloc (.cells #[.int .u8 (q.nm.x0 : Int), .int .u8 (q.nm.x1 : Int), .int .u8 (q.nm.x2 : Int), .int .u8 (q.nm.x3 : Int), .int .u8 (q.nm.x4 : Int), .int .u8 (q.nm.x5 : Int), .int .u8 (q.nm.x6 : Int), .int .u8 (q.nm.x7 : Int), .int .i64 q.no, .int .i64 q.h0, .int .i64 q.h1, .slice A' n' c'] 26)).heap[w.heap.size]? = some (.cells #[.int .u8 (p.nm.x0 : Int), .int .u8 (p.nm.x1 : Int), .int .u8 (p.nm.x2 : Int), .int .u8 (p.nm.x3 : Int), .int .u8 (p.nm.x4 : Int), .int .u8 (p.nm.x5 : Int), .int .u8 (p.nm.x6 : Int), .int .u8 (p.nm.x7 : Int), .int .i64 p.no, .int .i64 p.h0, .int .i64 p.h1, .slice A n c] 26 (0, 0))) := block_alloc (heap_alloc_new _ _) _
  have HU : Hid (((w.alloc (.cells #[.int .u8 (p.nm.x0 : Int), .int .u8 (p.nm.x1 : Int), .int .u8 (p.nm.x2 : Int), .int .u8 (p.nm.x3 : Int), .int .u8 (p.nm.x4 : Int), .int .u8 (p.nm.x5 : Int), .int .u8 (p.nm.x6 : Int), .int .u8 (p.nm.x7 : Int), .int .i64 p.no, .int .i64 p.h0, .int .i64 p.h1, .slice A n c] 26)).alloc (.cells #[.int .u8 (q.nm.x0 : Int), .int .u8 (q.nm.x1 : Int), .int .u8 (q.nm.x2 : Int), .int .u8 (q.nm.x3 : Int), .int .u8 (q.nm.x4 : Int), .int .u8 (q.nm.x5 : Int), .int .u8 (q.nm.x6 : Int), .int .u8 (q.nm.x7 : Int), .int .i64 q.no, .int .i64 q.h0, .int .i64 q.h1, .slice A' n' c'] 26)).heap[w.heap.size + 1]? = some (.cells #[.int .u8 (q.nm.x0 : Int), .int .u8 (q.nm.x1 : Int), .int .u8 (q.nm.x2 : Int), .int .u8 (q.nm.x3 : Int), .int .u8 (q.nm.x4 : Int), .int .u8 (q.nm.x5 : Int), .int .u8 (q.nm.x6 : Int), .int .u8 (q.nm.x7 : Int), .int .i64 q.no, .int .i64 q.h0, .int .i64 q.h1, .slice A' n' c'] 26 (0, 0))) := alloc_at (by simp)
  have Hr1 := Lib.hid h.rd
  have Hr2 := Lib.hid h'.rd
  have Hl := Lib.hid h.rd.hlen
  have Hl' := Lib.hid h'.rd.hlen
  have hsm := h.small
  clear h h'
  cases e1 : eqI p.nm.L q.nm.L with
  | false =>
    have q1 : eqI [(p.nm.x0 : Int), (p.nm.x1 : Int), (p.nm.x2 : Int), (p.nm.x3 : Int), (p.nm.x4 : Int), (p.nm.x5 : Int), (p.nm.x6 : Int), (p.nm.x7 : Int)] [(q.nm.x0 : Int), (q.nm.x1 : Int), (q.nm.x2 : Int), (q.nm.x3 : Int), (q.nm.x4 : Int), (q.nm.x5 : Int), (q.nm.x6 : Int), (q.nm.x7 : Int)] = false := e1
    have Hr : Hid (p.same q = false) := by show _ = _; rw [same_eq, e1]; rfl
    clear e1
    have heq := neq_digR
    have heq2 := neq_two
    go_enter Try.func18, Try.ntmps18
    go_wp2
    go_ret
    exact ⟨ret_bool (by rw [Hr.out]), below_two _ _ _⟩
  | true =>
    have q1 : eqI [(p.nm.x0 : Int), (p.nm.x1 : Int), (p.nm.x2 : Int), (p.nm.x3 : Int), (p.nm.x4 : Int), (p.nm.x5 : Int), (p.nm.x6 : Int), (p.nm.x7 : Int)] [(q.nm.x0 : Int), (q.nm.x1 : Int), (q.nm.x2 : Int), (q.nm.x3 : Int), (q.nm.x4 : Int), (q.nm.x5 : Int), (q.nm.x6 : Int), (q.nm.x7 : Int)] = true := e1
    have E1 := Lib.hid e1
    clear e1
    by_cases e2 : p.no = q.no
    · have b2 : (p.no != q.no) = false := by simpa using e2
      have E2 : Hid ((p.no == q.no) = true) := by show _ = _; simpa using e2
      clear e2
      cases e3 : eqI [p.h0, p.h1] [q.h0, q.h1] with
      | false =>
        have Hr : Hid (p.same q = false) := by show _ = _; rw [same_eq, E1.out, E2.out, e3]; rfl
        have heq := neq_digR
        have heq2 := neq_two
        go_enter Try.func18, Try.ntmps18
        go_wp2
        go_ret
        exact ⟨ret_bool (by rw [Hr.out]), below_two _ _ _⟩
      | true =>
        have Hr : Hid (p.same q = eqHs p.held q.held) := by show _ = _; rw [same_eq, E1.out, E2.out, e3]; rfl
        by_cases hlen : n = n'
        · subst hlen
          have b4 : ((n : Int) != (n : Int)) = false := by simp
          have heq3 := neq_heldR
          have heq := neq_digR
          have heq2 := neq_two
          go_enter Try.func18, Try.ntmps18
          go_wp2
          go_loopw [5] (fun i wr => ∃ k : Nat, k ≤ n ∧ i = .int .i64 (k : Int) ∧ (∀ j, j < k → sameHd (p.held.getD j default) (q.held.getD j default) = true) ∧ wr.heap[w.heap.size]? = some (.cells #[.int .u8 (p.nm.x0 : Int), .int .u8 (p.nm.x1 : Int), .int .u8 (p.nm.x2 : Int), .int .u8 (p.nm.x3 : Int), .int .u8 (p.nm.x4 : Int), .int .u8 (p.nm.x5 : Int), .int .u8 (p.nm.x6 : Int), .int .u8 (p.nm.x7 : Int), .int .i64 p.no, .int .i64 p.h0, .int .i64 p.h1, .slice A n c] 26 (0, 0)) ∧ wr.heap[w.heap.size + 1]? = some (.cells #[.int .u8 (q.nm.x0 : Int), .int .u8 (q.nm.x1 : Int), .int .u8 (q.nm.x2 : Int), .int .u8 (q.nm.x3 : Int), .int .u8 (q.nm.x4 : Int), .int .u8 (q.nm.x5 : Int), .int .u8 (q.nm.x6 : Int), .int .u8 (q.nm.x7 : Int), .int .i64 q.no, .int .i64 q.h0, .int .i64 q.h1, .slice A' n c'] 26 (0, 0)) ∧ Below w.heap.size w wr) (fun i _ => n - (intOf i).toNat)
          case atStart => exact ⟨0, by omega, rfl, fun j hj => absurd hj (by omega), HT.out, HU.out, Hw.out⟩
          case round =>
            obtain ⟨k, hk, rfl, h0, hT, hU, hbel⟩ := hrel
            have H0 := Lib.hid h0; have HT' := Lib.hid hT; have HU' := Lib.hid hU; have Hbel := Lib.hid hbel
            have t11 := block_cell hT 11
            have s11 := block_cell hU 11
            simp at t11 s11
            clear h0 hT hU
            by_cases hlt : k < n
            · obtain ⟨b, o, rfl, hbB, x0, x1, x2, x3, x4, x5, x6, x7, x8, x9, x10⟩ := (Hr1.out.up hbel (Nat.le_refl _)).hd hlt
              obtain ⟨b', o', rfl, hbB', y0, y1, y2, y3, y4, y5, y6, y7, y8, y9, y10⟩ := (Hr2.out.up hbel (Nat.le_refl _)).hd hlt
              have hd1 : decide ((k : Int) < (n : Int)) = true := decide_eq_true (by omega)
              have hki : (k : Int) < (n : Int) := by omega
              have Hfin : Hid (sameHd (p.held.getD k default) (q.held.getD k default) = false → eqHs p.held q.held = false) := fun h => eqHs_no (by have := Hl.out; omega) h
              generalize hhk : p.held.getD k default = h at *
              generalize hhm : q.held.getD k default = h' at *
              have Hhk := Lib.hid hhk; have Hhm := Lib.hid hhm
              clear hhk hhm hbel
              cases hS : sameHd h h' with
              | true =>
                have HS := Lib.hid hS
                go_wp2
                go_region
                all_goals
                  go_wp2
                  go_roundw
                  case rel =>
                    refine ⟨k + 1, by omega, by go_num, fun j hj => ?_, HT'.out, HU'.out, Hbel.out.drew⟩
                    rcases Nat.lt_or_ge j k with h1 | h1
                    · exact H0.out j h1
                    · obtain rfl : j = k := by omega
                      rw [Hhk.out, Hhm.out]; exact HS.out
                  case measure => simp [intOf]; omega
              | false =>
                have Hr3 := Lib.hid (Hfin.out hS)
                go_wp2
                go_region
                all_goals
                  go_wp2
                  go_ret
                  exact ⟨by rw [Hr.out, Hr3.out]; rfl, Hbel.out.drew⟩
            · have hkn : k = n := by omega
              subst hkn
              have hd1 : decide ((k : Int) < (k : Int)) = false := decide_eq_false (by omega)
              have Hr3 : Hid (eqHs p.held q.held = true) := eqHs_yes (by rw [Hl.out, Hl'.out]) (by rw [Hl.out]; exact H0.out)
              clear hlt hbel
              go_wp2
              go_ret
              exact ⟨by rw [Hr.out, Hr3.out]; rfl, Hbel.out⟩
        · have b4 : ((n : Int) != (n' : Int)) = true := by rw [bne_iff_ne]; omega
          have Hr3 : Hid (p.same q = false) := by show _ = _; rw [Hr.out]; exact eqHs_len (by rw [Hl.out, Hl'.out]; exact hlen)
          clear hlen
          have heq := neq_digR
          have heq2 := neq_two
          go_enter Try.func18, Try.ntmps18
          go_wp2
          go_ret
          exact ⟨ret_bool (by rw [Hr3.out]), below_two _ _ _⟩
    · have b2 : (p.no != q.no) = true := by simpa using e2
      have Hr : Hid (p.same q = false) := by show _ = _; rw [same_eq, E1.out, show (p.no == q.no) = false by simpa using e2]; rfl
      clear e2
      have heq := neq_digR
      have heq2 := neq_two
      go_enter Try.func18, Try.ntmps18
      go_wp2
      go_ret
      exact ⟨ret_bool (by rw [Hr.out]), below_two _ _ _⟩
end Go.Proofs.Ytjiecnoplnaahaa
