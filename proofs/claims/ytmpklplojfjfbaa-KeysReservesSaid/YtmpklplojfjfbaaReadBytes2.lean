/- The walk of layer 1's Reader.Bytes, in a reader. Conditions: bounds on lengths. -/
import Derived.Test.YtmpklplojfjfbaaReadBytes
namespace Go.Proofs.Ytmpklplojfjfbaa
open Go.RowKit Go.Lib
set_option maxRecDepth 100000 in
set_option maxHeartbeats 1000000 in
theorem readBytes_good (b k n c at_ : Nat) (A A2 : Option Addr) (V1 V2 : Value) (R : World → Prop) (w : World) (h : w.heap[b]? = some (.cells #[.slice A n c, .int .i64 (at_ : Int), .int .i64 0] 118 (0, 0)))
   (hl : at_ + k ≤ n) (hn : n ≤ 1000000000)
   (hrun : ∀ w', (Instr.sliceAt 32 (.slice A n c) (some (.int .i64 (at_ : Int))) none none).run Try.prog w' = .ok (.slice A2 (n - at_) (c - at_)) w')
   (hR : ∀ w', R w' → w'.heap[b]? = some (.cells #[.slice A n c, .int .i64 (at_ : Int), .int .i64 0] 118 (0, 0)))
   (hcall : Calls Try.prog 70 #[.slice A2 (n - at_) (c - at_), V1, V2] w.drew fun e w' => e = .returned (.tuple #[.int .i64 (k : Int), .int .i64 0]) ∧ R w') :
    Calls Try.prog 69 #[.pointer (some ⟨b, 0, none⟩), .func (.func 70) #[] #[V1, V2]] w fun e w' => e = .returned (.tuple #[]) ∧ ∃ w2, R w2 ∧ w' = w2.setCell ⟨b, 1, none⟩ (.int .i64 ((at_ : Int) + (k : Int))) := by
  have h0 := block_cell h 0
  have h1 := block_cell h 1
  have h2 := block_cell h 2
  simp at h0 h1 h2
  have Hc := Lib.hid hcall
  have HR := Lib.hid hR
  clear hcall hR h
  have hl' : (at_ : Int) + (k : Int) ≤ (n : Int) := by omega
  go_enter Try.func69, Try.ntmps69
  go_wp2
  go_region_held3 (fun w' => w'.cell? ⟨b, 0, none⟩ = some (.slice A n c) ∧ w'.cell? ⟨b, 1, none⟩ = some (.int .i64 at_)) (first | exact ⟨h0, h1⟩ | exact ⟨f0, f1⟩ | go_keep) (first | (go_at_call 70; refine Hc.out.mono ?_; rintro e w2 ⟨rfl, hr⟩; have f0 := block_cell (HR.out _ hr) 0; have f1 := block_cell (HR.out _ hr) 1; simp at f0 f1; have Hr := Lib.hid hr; clear hr))
  have f2 := block_free (HR.out _ Hr.out) 1
  go_wp2
  go_end0
  exact ⟨rfl, _, Hr.out, rfl⟩
set_option maxRecDepth 100000 in
set_option maxHeartbeats 1000000 in
theorem readBytes_bad (b n c at_ : Nat) (err : Int) (A A2 : Option Addr) (V1 V2 : Value) (R : World → Prop) (w : World) (h : w.heap[b]? = some (.cells #[.slice A n c, .int .i64 (at_ : Int), .int .i64 0] 118 (0, 0)))
   (_hl : at_ ≤ n) (_hn : n ≤ 1000000000) (he : err ≠ 0)
   (hrun : ∀ w', (Instr.sliceAt 32 (.slice A n c) (some (.int .i64 (at_ : Int))) none none).run Try.prog w' = .ok (.slice A2 (n - at_) (c - at_)) w')
   (hR : ∀ w', R w' → w'.heap[b]? = some (.cells #[.slice A n c, .int .i64 (at_ : Int), .int .i64 0] 118 (0, 0)))
   (hcall : Calls Try.prog 70 #[.slice A2 (n - at_) (c - at_), V1, V2] w.drew fun e w' => e = .returned (.tuple #[.int .i64 0, .int .i64 err]) ∧ R w') :
    Calls Try.prog 69 #[.pointer (some ⟨b, 0, none⟩), .func (.func 70) #[] #[V1, V2]] w fun e w' => e = .returned (.tuple #[]) ∧ ∃ w2, R w2 ∧ w' = w2.setCell ⟨b, 2, none⟩ (.int .i64 err) := by
  have h0 := block_cell h 0
  have h1 := block_cell h 1
  have h2 := block_cell h 2
  simp at h0 h1 h2
  have Hc := Lib.hid hcall
  have HR := Lib.hid hR
  have he' : (err != 0) = true := by simpa using he
  clear hcall hR h he
  go_enter Try.func69, Try.ntmps69
  go_wp2
  go_region_held3 (fun w' => w'.cell? ⟨b, 0, none⟩ = some (.slice A n c) ∧ w'.cell? ⟨b, 1, none⟩ = some (.int .i64 at_)) (first | exact ⟨h0, h1⟩ | exact ⟨f0, f1⟩ | go_keep) (first | (go_at_call 70; refine Hc.out.mono ?_; rintro e w2 ⟨rfl, hr⟩; have f0 := block_cell (HR.out _ hr) 0; have f1 := block_cell (HR.out _ hr) 1; simp at f0 f1; have Hr := Lib.hid hr; clear hr))
  have f2 := block_free (HR.out _ Hr.out) 2
  have f3 := block_cell (HR.out _ Hr.out) 2
  simp at f3
  go_wp2
  refine bodyPost_ret (results_none rfl _ _ _) rfl ?_
  exact ⟨rfl, _, Hr.out, rfl⟩
def bytesRS (s : RS) (most : Nat) : RS × List Nat :=
  if s.err ≠ 0 then (s, [])
  else if (takeB (s.l.drop s.at_) most).2.1 ≠ 0 then (⟨s.l, s.at_, (takeB (s.l.drop s.at_) most).2.1⟩, [])
  else (⟨s.l, s.at_ + (takeB (s.l.drop s.at_) most).1, 0⟩, (takeB (s.l.drop s.at_) most).2.2)
/-- The bytes that were read lie in a row of the call's own. -/
def GivesR (w : World) (b : Nat) (x : RS × List Nat) (e : Ending) (w' : World) : Prop :=
  ∃ A n c, e = .returned (.slice A n c) ∧ w'.ownsRow w.heap.size 5 1 (.slice A n c) n (bv x.2) ∧ n = x.2.length ∧ RdAt w' b x.1 ∧ w.grownBy w' (some b)
theorem own_down {w : World} {base base' : Nat} {e : TypeId} {sz n : Nat} {v : Value} {xs : List Value} (h : w.ownsRow base e sz v n xs) (hb : base' ≤ base) : w.ownsRow base' e sz v n xs := by
  refine ⟨h.1, ?_⟩
  rcases h.2 with h2 | ⟨g, cap, cur, h1, h2, h3⟩
  · exact .inl h2
  · exact .inr ⟨g, cap, cur, h1, by omega, h3⟩
set_option maxRecDepth 100000 in
set_option maxHeartbeats 1000000 in
theorem bytes_any (b most : Nat) (s : RS) (w : World) (h : RdAt w b s) (hmost : most ≤ 1000000000) :
    Calls Try.prog 38 #[.pointer (some ⟨b, 0, none⟩), .int .i64 (most : Int)] w (GivesR w b (bytesRS s most)) := by
  have hb := h.lt
  obtain ⟨A, n, c, h1, h2, h3, h4, h5, h6⟩ := h
  obtain ⟨l, at_, err⟩ := s
  simp only at h1 h2 h4 h6
  have H1 := Lib.hid h1
  have H2 := Lib.hid h2
  have H6 := Lib.hid h6
  clear h1 h2 h6
  have hm' : (most : Int) ≤ 1000000000 := by omega
  have H1a : Hid (((w.alloc (.cells #[.slice none 0 0] 32)).alloc (.cells #[.int .u64 (most : Int)] 71)).heap[b]? = some (.cells #[.slice A n c, .int .i64 (at_ : Int), .int .i64 err] 118 (0, 0))) := block_alloc (block_alloc H1.out _) _
  have Hout : Hid (((w.alloc (.cells #[.slice none 0 0] 32)).alloc (.cells #[.int .u64 (most : Int)] 71)).heap[w.heap.size]? = some (.cells #[.slice none 0 0] 32 (0, 0))) := block_alloc (heap_alloc_new w _) _
  have Hlim : Hid (((w.alloc (.cells #[.slice none 0 0] 32)).alloc (.cells #[.int .u64 (most : Int)] 71)).cell? ⟨w.heap.size + 1, 0, none⟩ = some (.int .u64 (most : Int))) := by show _ = _; simp [go_sem]
  by_cases he : err = 0
  · subst he
    obtain ⟨A2, hrun, hrd⟩ := slice_from elem_u8 sizeOf_u8 H2.out h3 h4
    have Hrun := Lib.hid hrun
    have Hrd : Hid (Rd w b 1 A2 (n - at_) (bv (l.drop at_))) := by show Rd _ _ _ _ _ _; rw [bv_drop]; simpa using hrd
    have Hnum : Hid (bytesRS ⟨l, at_, 0⟩ most = _) := Lib.hid (by unfold bytesRS; rw [if_neg (by simp)])
    clear hrun hrd
    have hln : l.length = n := by have := H2.out.1; rw [bv_len] at this; omega
    have Hsm : Hid (∀ x ∈ l.drop at_, x < 256) := fun x hx => H6.out x (List.mem_of_mem_drop hx)
    have Hlen : (takeB (l.drop at_) most).1 ≤ n - at_ := by have := takeB_len (l.drop at_) most; rw [List.length_drop, hln] at this; exact this
    by_cases ht : (takeB (l.drop at_) most).2.1 = 0
    · have Ht := Lib.hid ht
      have Hnum2 : Hid (bytesRS ⟨l, at_, 0⟩ most = (⟨l, at_ + (takeB (l.drop at_) most).1, 0⟩, (takeB (l.drop at_) most).2.2)) := by show _ = _; rw [Hnum.out, if_neg (by simpa using Ht.out)]
      clear ht Hnum hln
      go_enter Try.func38, Try.ntmps38
      go_wp2_with fail
      refine (readBytes_good b (takeB (l.drop at_) most).1 n c at_ A A2 _ _ (fun w' => ∃ A1 n1 c1 w1, w1.ownsRow (w.heap.size + 2) 5 1 (.slice A1 n1 c1) n1 (bv (takeB (l.drop at_) most).2.2) ∧ n1 = (takeB (l.drop at_) most).2.2.length ∧ Below (w.heap.size + 2) ((w.alloc (.cells #[.slice none 0 0] 32)).alloc (.cells #[.int .u64 (most : Int)] 71)) w1 ∧ w' = w1.setCell ⟨w.heap.size, 0, none⟩ (.slice A1 n1 c1)) _ H1a.out (by omega) h5 Hrun.out ?_ ?_).mono ?_
      · rintro w' ⟨A1, n1, c1, w1, _, _, hb1, rfl⟩
        rw [Below.heap_setCell _ _ _ _ (by show b ≠ w.heap.size; omega)]
        exact (hb1.block b (by omega)).trans H1a.out
      · refine (bytes1_good A2 (n - at_) (c - at_) most (w.heap.size + 1) w.heap.size (.slice none 0 0) 32 (l.drop at_) ((w.alloc (.cells #[.slice none 0 0] 32)).alloc (.cells #[.int .u64 (most : Int)] 71)).drew ?_ (by omega) (by omega) Hsm.out Hlim.out Hout.out Ht.out).mono ?_
        · exact ((((Hrd.out.more (by omega)).alloc (Nat.le_refl _) _).alloc (by simp) _).drew).more (by simp; omega)
        · rintro e w' ⟨rfl, A1, n1, c1, w1, q1, q2, q3, q4⟩
          exact ⟨rfl, A1, n1, c1, w1, by simpa using q1, q2, ⟨q3.os, q3.tape, q3.output, by simpa using q3.size, fun k hk => q3.block k (by simpa using hk)⟩, q4⟩
      · rintro e w' ⟨rfl, w2, ⟨A1, n1, c1, w1, q1, q2, q3, rfl⟩, rfl⟩
        generalize (takeB (l.drop at_) most).2.2 = v at *
        generalize hk : (takeB (l.drop at_) most).1 = k at *
        have hbw : Below w.heap.size w w1 := (((Below.refl _ _).alloc (Nat.le_refl _) _).alloc (by simp) _).trans (q3.mono (by omega))
        have ho1 : w1.heap[w.heap.size]? = some (.cells #[.slice none 0 0] 32 (0, 0)) := (q3.block _ (by omega)).trans Hout.out
        have ho2 : (w1.setCell ⟨w.heap.size, 0, none⟩ (.slice A1 n1 c1)).heap[w.heap.size]? = some (.cells #[.slice A1 n1 c1] 32 (0, 0)) := by
          have := Joins.block_setCell (i := 0) ho1 (.slice A1 n1 c1)
          simpa using this
        have hcell : ((w1.setCell ⟨w.heap.size, 0, none⟩ (.slice A1 n1 c1)).setCell ⟨b, 1, none⟩ (.int .i64 ((at_ : Int) + (k : Int)))).cell? ⟨w.heap.size, 0, none⟩ = some (.slice A1 n1 c1) := by
          have := block_cell ((Below.heap_setCell (w1.setCell ⟨w.heap.size, 0, none⟩ (.slice A1 n1 c1)) ⟨b, 1, none⟩ (.int .i64 ((at_ : Int) + (k : Int))) w.heap.size (by show w.heap.size ≠ b; omega)).trans ho2) 0
          simpa using this
        have hb9 : (w1.setCell ⟨w.heap.size, 0, none⟩ (.slice A1 n1 c1)).heap[b]? = some (.cells #[.slice A n c, .int .i64 (at_ : Int), .int .i64 0] 118 (0, 0)) := by
          rw [Below.heap_setCell _ _ _ _ (by show b ≠ w.heap.size; omega)]; exact (q3.block b (by omega)).trans H1a.out
        have q1' : (w1.setCell ⟨w.heap.size, 0, none⟩ (.slice A1 n1 c1)).ownsRow (w.heap.size + 2) 5 1 (.slice A1 n1 c1) n1 (bv v) := ownsRow_setCell_below q1 (a := ⟨w.heap.size, 0, none⟩) (by show w.heap.size < _; omega) _
        have hbw2 : Below w.heap.size w (w1.setCell ⟨w.heap.size, 0, none⟩ (.slice A1 n1 c1)) := hbw.setCell (by show w.heap.size ≤ w.heap.size; omega) _
        generalize w1.setCell ⟨w.heap.size, 0, none⟩ (.slice A1 n1 c1) = w9 at *
        have Q1 := Lib.hid q1'
        have Q2 := Lib.hid q2
        have Hb9 := Lib.hid hb9
        have Hbw := Lib.hid hbw2
        have Hk := Lib.hid hk
        clear q1 q1' q2 hb9 hbw hbw2 hk ho1 ho2 q3
        go_wp2
        go_ret
        rw [Hnum2.out]
        refine ⟨A1, n1, c1, rfl, own_down (ownsRow_setCell_below Q1.out (a := ⟨b, 1, none⟩) (by show b < _; omega) _) (by omega), Q2.out, ⟨A, n, c, ?_, ?_, h3, by have := Hk.out; show at_ + k ≤ n; omega, h5, H6.out⟩, ?_⟩
        · have := Joins.block_setCell (i := 1) Hb9.out (.int .i64 ((at_ : Int) + (k : Int)))
          simpa using this
        · exact (H2.out.below Hbw.out (by omega)).setCell (by show b ≤ b; omega) _
        · exact grown_trans (grown_of_below Hbw.out) (grown_set _ _ _)
    · have Ht := Lib.hid ht
      have Hnum2 : Hid (bytesRS ⟨l, at_, 0⟩ most = (⟨l, at_, (takeB (l.drop at_) most).2.1⟩, [])) := by show _ = _; rw [Hnum.out, if_pos (by simpa using Ht.out)]
      clear ht Hnum hln
      go_enter Try.func38, Try.ntmps38
      go_wp2_with fail
      refine (readBytes_bad b n c at_ (takeB (l.drop at_) most).2.1 A A2 _ _ (fun w' => w' = ((w.alloc (.cells #[.slice none 0 0] 32)).alloc (.cells #[.int .u64 (most : Int)] 71)).drew) _ H1a.out (by omega) h5 Ht.out Hrun.out ?_ ?_).mono ?_
      · rintro w' rfl
        exact H1a.out
      · refine (bytes1_bad A2 (n - at_) (c - at_) most (w.heap.size + 1) w.heap.size (l.drop at_) ((w.alloc (.cells #[.slice none 0 0] 32)).alloc (.cells #[.int .u64 (most : Int)] 71)).drew ?_ (by omega) Hsm.out Hlim.out Ht.out).mono ?_
        · exact ((((Hrd.out.more (by omega)).alloc (Nat.le_refl _) _).alloc (by simp) _).drew).more (by simp; omega)
        · rintro e w' ⟨rfl, rfl⟩
          exact ⟨rfl, rfl⟩
      · rintro e w' ⟨rfl, w2, rfl, rfl⟩
        generalize (takeB (l.drop at_) most).2.1 = v at *
        have hbw : Below w.heap.size w ((w.alloc (.cells #[.slice none 0 0] 32)).alloc (.cells #[.int .u64 (most : Int)] 71)).drew := (((Below.refl _ _).alloc (Nat.le_refl _) _).alloc (by simp) _).drew
        have ho2 : ((w.alloc (.cells #[.slice none 0 0] 32)).alloc (.cells #[.int .u64 (most : Int)] 71)).drew.heap[w.heap.size]? = some (.cells #[.slice none 0 0] 32 (0, 0)) := Hout.out
        have hb9 : ((w.alloc (.cells #[.slice none 0 0] 32)).alloc (.cells #[.int .u64 (most : Int)] 71)).drew.heap[b]? = some (.cells #[.slice A n c, .int .i64 (at_ : Int), .int .i64 0] 118 (0, 0)) := H1a.out
        have hcell : (((w.alloc (.cells #[.slice none 0 0] 32)).alloc (.cells #[.int .u64 (most : Int)] 71)).drew.setCell ⟨b, 2, none⟩ (.int .i64 v)).cell? ⟨w.heap.size, 0, none⟩ = some (.slice none 0 0) := by
          have := block_cell ((Below.heap_setCell (((w.alloc (.cells #[.slice none 0 0] 32)).alloc (.cells #[.int .u64 (most : Int)] 71)).drew) ⟨b, 2, none⟩ (.int .i64 v) w.heap.size (by show w.heap.size ≠ b; omega)).trans ho2) 0
          simpa using this
        generalize ((w.alloc (.cells #[.slice none 0 0] 32)).alloc (.cells #[.int .u64 (most : Int)] 71)).drew = w9 at *
        have Hb9 := Lib.hid hb9
        have Hbw := Lib.hid hbw
        clear hb9 hbw ho2
        go_wp2
        go_ret
        rw [Hnum2.out]
        refine ⟨none, 0, 0, rfl, World.ownsRow_nil _ _ _ _, rfl, ⟨A, n, c, ?_, ?_, h3, h4, h5, H6.out⟩, ?_⟩
        · have := Joins.block_setCell (i := 2) Hb9.out (.int .i64 v)
          simpa using this
        · exact (H2.out.below Hbw.out (by omega)).setCell (by show b ≤ b; omega) _
        · exact grown_trans (grown_of_below Hbw.out) (grown_set _ _ _)
  · have Hnum2 : Hid (bytesRS ⟨l, at_, err⟩ most = (⟨l, at_, err⟩, [])) := by show _ = _; unfold bytesRS; rw [if_pos (by simpa using he)]
    have hbox : ((w.alloc (.cells #[.slice none 0 0] 32)).alloc (.cells #[.int .u64 (most : Int)] 71)).cell? ⟨w.heap.size, 0, none⟩ = some (.slice none 0 0) := by simp [block_cell Hout.out 0]
    go_enter Try.func38, Try.ntmps38
    go_wp2_with fail
    refine (read_skip b A n c at_ err _ _ H1a.out he).mono ?_
    rintro e w' ⟨rfl, rfl⟩
    go_wp2
    go_ret
    rw [Hnum2.out]
    refine ⟨none, 0, 0, rfl, World.ownsRow_nil _ _ _ _, rfl, ⟨A, n, c, H1a.out, ?_, h3, h4, h5, H6.out⟩, grown_trans (grown_alloc _ _ _) (grown_alloc _ _ _)⟩
    exact ((H2.out.alloc (by omega) _).alloc (by simp; omega) _)
end Go.Proofs.Ytmpklplojfjfbaa
