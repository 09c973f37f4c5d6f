/- The walks of layer 1's Reader: numbers. Conditions: bounds on lengths. -/
import Derived.Test.YtecolkpnllikaaaDoorLook
import Derived.Test.YtecolkpnllikaaaDoorSlice
import Derived.Deep.RegionHeld3
import Derived.Lib.SmallJoins
namespace Go.Proofs.YtecolkpnllikaaaDoor
open Go.RowKit Go.Lib

/-- What one read of a number comes to: how many bytes, the error, the number. -/
def take1 (l : List Nat) (most : Nat) : Nat × Int × Nat :=
  if (lookN l).2.2 ≠ 0 then (0, (lookN l).2.2, 0) else if most < (lookN l).1 then (0, 2, 0) else ((lookN l).2.1, 0, (lookN l).1)
set_option maxRecDepth 100000 in
set_option maxHeartbeats 1000000 in
theorem num1_bad (A : Option Addr) (n c most : Nat) (b3 b5 : Nat) (l : List Nat) (w : World) (hr : Rd w w.heap.size 1 A n (bv l)) (hn : n ≤ 1000000000) (hb : ∀ x ∈ l, x < 256)
    (h3 : w.cell? ⟨b3, 0, none⟩ = some (.int .u64 (most : Int))) (he : (take1 l most).2.1 ≠ 0) :
    Calls Tryd.prog 66 #[.slice A n c, .pointer (some ⟨b3, 0, none⟩), .pointer (some ⟨b5, 0, none⟩)] w fun e w' => e = .returned (.tuple #[.int .i64 0, .int .i64 (take1 l most).2.1]) ∧ w = w' := by
  have Hr := Lib.hid hr; have Hb := Lib.hid hb; clear hr hb
  by_cases h1 : (lookN l).2.2 ≠ 0
  · have hne : ((lookN l).2.2 != 0) = true := by simpa using h1
    have Ht : Hid ((take1 l most).2.1 = (lookN l).2.2) := by show _ = _; unfold take1; rw [if_pos h1]
    clear h1 he
    go_enter Tryd.func66, Tryd.ntmps66
    go_wp2_with (go_at_call 67; refine (look_any A n c l w Hr.out hn Hb.out).mono ?_; rintro e w' ⟨rfl, rfl⟩)
    go_ret2
    exact ⟨by rw [Ht.out]; rfl, rfl⟩
  · have h0 : (lookN l).2.2 = 0 := by simpa using h1
    have h2 : most < (lookN l).1 := by
      unfold take1 at he
      rw [if_neg h1] at he
      split at he
      · assumption
      · simp at he
    have hne : ((lookN l).2.2 != 0) = false := by simpa using h0
    have hgt : decide ((most : Int) < ((lookN l).1 : Int)) = true := decide_eq_true (by omega)
    have Ht : Hid ((take1 l most).2.1 = 2) := by show _ = _; unfold take1; rw [if_neg h1, if_pos h2]
    clear h1 he h0
    go_enter Tryd.func66, Tryd.ntmps66
    go_wp2_with (go_at_call 67; refine (look_any A n c l w Hr.out hn Hb.out).mono ?_; rintro e w' ⟨rfl, rfl⟩)
    go_ret2
    exact ⟨by rw [Ht.out]; rfl, rfl⟩
set_option maxRecDepth 100000 in
set_option maxHeartbeats 1000000 in
theorem num1_good (A : Option Addr) (n c most : Nat) (b3 b5 : Nat) (v0 : Value) (l : List Nat) (w : World) (hr : Rd w w.heap.size 1 A n (bv l)) (hn : n ≤ 1000000000) (hb : ∀ x ∈ l, x < 256)
    (h3 : w.cell? ⟨b3, 0, none⟩ = some (.int .u64 (most : Int))) (h5 : w.cell? ⟨b5, 0, none⟩ = some v0) (hf : w.frozen? ⟨b5, 0, none⟩ = false) (he : (take1 l most).2.1 = 0) :
    Calls Tryd.prog 66 #[.slice A n c, .pointer (some ⟨b3, 0, none⟩), .pointer (some ⟨b5, 0, none⟩)] w fun e w' =>
      e = .returned (.tuple #[.int .i64 ((take1 l most).1 : Int), .int .i64 0]) ∧ w' = w.setCell ⟨b5, 0, none⟩ (.int .u64 ((take1 l most).2.2 : Int)) := by
  have Hr := Lib.hid hr; have Hb := Lib.hid hb; clear hr hb
  have h1 : (lookN l).2.2 = 0 := by
    unfold take1 at he
    split at he
    · exact he
    · rename_i h; simpa using h
  have h2 : (lookN l).1 ≤ most := by
    unfold take1 at he
    rw [if_neg (by simp [h1])] at he
    split at he
    · simp at he
    · omega
  have Ht : Hid (take1 l most = ((lookN l).2.1, 0, (lookN l).1)) := by
    show _ = _
    unfold take1; rw [if_neg (by simp [h1]), if_neg (by omega)]
  have hne : ((lookN l).2.2 != 0) = false := by simpa using h1
  have hgt : decide ((most : Int) < ((lookN l).1 : Int)) = false := decide_eq_false (by omega)
  clear h1 he
  go_enter Tryd.func66, Tryd.ntmps66
  go_wp2_with (go_at_call 67; refine (look_any A n c l w Hr.out hn Hb.out).mono ?_; rintro e w' ⟨rfl, rfl⟩)
  go_ret2
  exact ⟨by rw [Ht.out]; rfl, by rw [Ht.out]⟩

theorem read_skip (b : Nat) (A : Option Addr) (n c at_ : Nat) (err : Int) (F : Value) (w : World) (h : w.heap[b]? = some (.cells #[.slice A n c, .int .i64 (at_ : Int), .int .i64 err] 113 (0, 0))) (he : err ≠ 0) :
    Calls Tryd.prog 65 #[.pointer (some ⟨b, 0, none⟩), F] w fun e w' => e = .returned (.tuple #[]) ∧ w = w' := by
  have h2 := block_cell h 2
  simp at h2
  have he' : (err != 0) = true := by simpa using he
  clear h he
  go_enter Tryd.func65, Tryd.ntmps65
  go_wp2
  refine bodyPost_ret (results_none rfl _ _ _) rfl ?_
  exact ⟨rfl, rfl⟩
set_option maxRecDepth 100000 in
set_option maxHeartbeats 1000000 in
theorem readNum_good (b k n c at_ : Nat) (A A2 : Option Addr) (V1 V2 : Value) (R : World → Prop) (w : World) (h : w.heap[b]? = some (.cells #[.slice A n c, .int .i64 (at_ : Int), .int .i64 0] 113 (0, 0)))
   (hl : at_ + k ≤ n) (hn : n ≤ 1000000000)
   (hrun : ∀ w', (Instr.sliceAt 48 (.slice A n c) (some (.int .i64 (at_ : Int))) none none).run Tryd.prog w' = .ok (.slice A2 (n - at_) (c - at_)) w')
   (hR : ∀ w', R w' → w'.heap[b]? = some (.cells #[.slice A n c, .int .i64 (at_ : Int), .int .i64 0] 113 (0, 0)))
   (hcall : Calls Tryd.prog 66 #[.slice A2 (n - at_) (c - at_), V1, V2] w.drew fun e w' => e = .returned (.tuple #[.int .i64 (k : Int), .int .i64 0]) ∧ R w') :
    Calls Tryd.prog 65 #[.pointer (some ⟨b, 0, none⟩), .func (.func 66) #[] #[V1, V2]] w fun e w' => e = .returned (.tuple #[]) ∧ ∃ w2, R w2 ∧ w' = w2.setCell ⟨b, 1, none⟩ (.int .i64 ((at_ : Int) + (k : Int))) := by
  have h0 := block_cell h 0
  have h1 := block_cell h 1
  have h2 := block_cell h 2
  simp at h0 h1 h2
  have Hc := Lib.hid hcall
  have HR := Lib.hid hR
  clear hcall hR h
  have hl' : (at_ : Int) + (k : Int) ≤ (n : Int) := by omega
  go_enter Tryd.func65, Tryd.ntmps65
  go_wp2
  go_region_held3 (fun w' => w'.cell? ⟨b, 0, none⟩ = some (.slice A n c) ∧ w'.cell? ⟨b, 1, none⟩ = some (.int .i64 at_)) (first | exact ⟨h0, h1⟩ | exact ⟨f0, f1⟩ | go_keep) (first | (go_at_call 66; refine Hc.out.mono ?_; rintro e w2 ⟨rfl, hr⟩; have f0 := block_cell (HR.out _ hr) 0; have f1 := block_cell (HR.out _ hr) 1; simp at f0 f1; have Hr := Lib.hid hr; clear hr))
  have f2 := block_free (HR.out _ Hr.out) 1
  go_wp2
  go_end0
  exact ⟨rfl, _, Hr.out, rfl⟩
set_option maxRecDepth 100000 in
set_option maxHeartbeats 1000000 in
theorem readNum_bad (b n c at_ : Nat) (err : Int) (A A2 : Option Addr) (V1 V2 : Value) (R : World → Prop) (w : World) (h : w.heap[b]? = some (.cells #[.slice A n c, .int .i64 (at_ : Int), .int .i64 0] 113 (0, 0)))
   (_hl : at_ ≤ n) (_hn : n ≤ 1000000000) (he : err ≠ 0)
   (hrun : ∀ w', (Instr.sliceAt 48 (.slice A n c) (some (.int .i64 (at_ : Int))) none none).run Tryd.prog w' = .ok (.slice A2 (n - at_) (c - at_)) w')
   (hR : ∀ w', R w' → w'.heap[b]? = some (.cells #[.slice A n c, .int .i64 (at_ : Int), .int .i64 0] 113 (0, 0)))
   (hcall : Calls Tryd.prog 66 #[.slice A2 (n - at_) (c - at_), V1, V2] w.drew fun e w' => e = .returned (.tuple #[.int .i64 0, .int .i64 err]) ∧ R w') :
    Calls Tryd.prog 65 #[.pointer (some ⟨b, 0, none⟩), .func (.func 66) #[] #[V1, V2]] w fun e w' => e = .returned (.tuple #[]) ∧ ∃ w2, R w2 ∧ w' = w2.setCell ⟨b, 2, none⟩ (.int .i64 err) := by
  have h0 := block_cell h 0
  have h1 := block_cell h 1
  have h2 := block_cell h 2
  simp at h0 h1 h2
  have Hc := Lib.hid hcall
  have HR := Lib.hid hR
  have he' : (err != 0) = true := by simpa using he
  clear hcall hR h he
  go_enter Tryd.func65, Tryd.ntmps65
  go_wp2
  go_region_held3 (fun w' => w'.cell? ⟨b, 0, none⟩ = some (.slice A n c) ∧ w'.cell? ⟨b, 1, none⟩ = some (.int .i64 at_)) (first | exact ⟨h0, h1⟩ | exact ⟨f0, f1⟩ | go_keep) (first | (go_at_call 66; refine Hc.out.mono ?_; rintro e w2 ⟨rfl, hr⟩; have f0 := block_cell (HR.out _ hr) 0; have f1 := block_cell (HR.out _ hr) 1; simp at f0 f1; have Hr := Lib.hid hr; clear hr))
  have f2 := block_free (HR.out _ Hr.out) 2
  have f3 := block_cell (HR.out _ Hr.out) 2
  simp at f3
  go_wp2
  refine bodyPost_ret (results_none rfl _ _ _) rfl ?_
  exact ⟨rfl, _, Hr.out, rfl⟩

/-- A reader: all its bytes, how far it is, its error. -/
structure RS where
  l : List Nat
  at_ : Nat
  err : Int
/-- The reader's state lies in block b. -/
def RdAt (w : World) (b : Nat) (s : RS) : Prop :=
  ∃ A n c, w.heap[b]? = some (.cells #[.slice A n c, .int .i64 (s.at_ : Int), .int .i64 s.err] 113 (0, 0)) ∧ Rd w b 1 A n (bv s.l) ∧ n ≤ c ∧ s.at_ ≤ n ∧ n ≤ 1000000000 ∧ ∀ x ∈ s.l, x < 256
theorem RdAt.lt {w : World} {b : Nat} {s : RS} (h : RdAt w b s) : b < w.heap.size := by
  obtain ⟨A, n, c, h1, _⟩ := h
  exact block_lt h1
theorem RdAt.same {w w' : World} {b : Nat} {s : RS} (h : RdAt w b s) (hk : ∀ k, k ≤ b → w'.heap[k]? = w.heap[k]?) : RdAt w' b s := by
  obtain ⟨A, n, c, h1, h2, h3⟩ := h
  exact ⟨A, n, c, (hk b (Nat.le_refl _)).trans h1, h2.keep fun b' o' hb => World.cell?_of_block (hk b' (by omega)), h3⟩
theorem RdAt.below {w w' : World} {b B : Nat} {s : RS} (h : RdAt w b s) (hb : Below B w w') (hB : b < B) : RdAt w' b s := h.same fun k hk => hb.block k (by omega)
theorem RdAt.grown {w w' : World} {b g : Nat} {s : RS} (h : RdAt w b s) (hg : w.grownBy w' (some g)) (hne : b < g) : RdAt w' b s :=
  h.same fun k hk => hg.block k (by have := h.lt; omega) (by intro e; injection e with e; omega)
def numRS (s : RS) (most : Nat) : RS × Nat :=
  if s.err ≠ 0 then (s, 0)
  else if (take1 (s.l.drop s.at_) most).2.1 ≠ 0 then (⟨s.l, s.at_, (take1 (s.l.drop s.at_) most).2.1⟩, 0)
  else (⟨s.l, s.at_ + (take1 (s.l.drop s.at_) most).1, 0⟩, (take1 (s.l.drop s.at_) most).2.2)
theorem goOn_le : ∀ (f : Nat) (l : List Nat), goOn f l ≤ min l.length f := by
  intro f
  induction f with
  | zero => intro l; simp [goOn]
  | succ f ih =>
    intro l
    cases l with
    | nil => simp [goOn]
    | cons b l =>
      unfold goOn
      split
      · have := ih l; simp; omega
      · simp
theorem lookN_len (l : List Nat) : (lookN l).2.1 ≤ l.length := by
  have h := goOn_le 10 l
  unfold lookN
  simp only
  split
  · simp
  · split
    · simp
    · rename_i h1 _; simp only; omega
theorem take1_len (l : List Nat) (most : Nat) : (take1 l most).1 ≤ l.length := by
  unfold take1
  split
  · simp
  · split
    · simp
    · exact lookN_len l
theorem bv_drop (l : List Nat) (k : Nat) : bv (l.drop k) = (bv l).drop k := by simp [bv]
theorem bv_take (l : List Nat) (k : Nat) : bv (l.take k) = (bv l).take k := by simp [bv]
theorem grown_alloc (w : World) (o : Obj) (r : Option Nat) : w.grownBy (w.alloc o) r := ⟨rfl, rfl, rfl, by simp, fun k hk _ => Below.heap_alloc w o k hk⟩
theorem grown_set {w : World} (b i : Nat) (v : Value) : w.grownBy (w.setCell ⟨b, i, none⟩ v) (some b) :=
  ⟨rfl, rfl, rfl, by simp, fun k _ hne => Below.heap_setCell w ⟨b, i, none⟩ v k (fun e => hne (by rw [e]))⟩
theorem grown_set_new {w w' : World} {r : Option Nat} (h : w.grownBy w' r) {b : Nat} (hb : w.heap.size ≤ b) (i : Nat) (v : Value) : w.grownBy (w'.setCell ⟨b, i, none⟩ v) r :=
  ⟨h.os, h.tape, h.output, by simpa using h.size, fun k hk hne => (Below.heap_setCell w' ⟨b, i, none⟩ v k (by show k ≠ b; omega)).trans (h.block k hk hne)⟩
theorem grown_drew {w w' : World} {r : Option Nat} (h : w.grownBy w' r) : w.grownBy w'.drew r := ⟨h.os, h.tape, h.output, h.size, h.block⟩
theorem grown_trans {w w' w'' : World} {r : Option Nat} (h : w.grownBy w' r) (h2 : w'.grownBy w'' r) : w.grownBy w'' r :=
  ⟨h2.os.trans h.os, h2.tape.trans h.tape, h2.output.trans h.output, Nat.le_trans h.size h2.size, fun k hk hne => (h2.block k (by have := h.size; omega) hne).trans (h.block k hk hne)⟩
theorem grown_of_below {w w' : World} {r : Option Nat} (h : Below w.heap.size w w') : w.grownBy w' r := ⟨h.os, h.tape, h.output, h.size, fun k hk _ => h.block k hk⟩

set_option maxRecDepth 100000 in
set_option maxHeartbeats 1000000 in
theorem num_any (b most : Nat) (s : RS) (w : World) (h : RdAt w b s) :
    Calls Tryd.prog 48 #[.pointer (some ⟨b, 0, none⟩), .int .u64 (most : Int)] w fun e w' => e = .returned (.int .u64 ((numRS s most).2 : Int)) ∧ RdAt w' b (numRS s most).1 ∧ w.grownBy w' (some b) := by
  have hb := h.lt
  obtain ⟨A, n, c, h1, h2, h3, h4, h5, h6⟩ := h
  obtain ⟨l, at_, err⟩ := s
  simp only at h1 h2 h4 h6
  have H1 := Lib.hid h1
  have H2 := Lib.hid h2
  have H6 := Lib.hid h6
  clear h1 h2 h6
  have H1a : Hid (((w.alloc (.cells #[.int .u64 (most : Int)] 80)).alloc (.cells #[.int .u64 0] 80)).heap[b]? = some (.cells #[.slice A n c, .int .i64 (at_ : Int), .int .i64 err] 113 (0, 0))) := block_alloc (block_alloc H1.out _) _
  by_cases he : err = 0
  · subst he
    obtain ⟨A2, hrun, hrd⟩ := slice_from elem_u8 sizeOf_u8 H2.out h3 h4
    have Hrun := Lib.hid hrun
    have Hrd : Hid (Rd w b 1 A2 (n - at_) (bv (l.drop at_))) := by show Rd _ _ _ _ _ _; rw [bv_drop]; simpa using hrd
    have Hnum : Hid (numRS ⟨l, at_, 0⟩ most = _) := Lib.hid (by unfold numRS; rw [if_neg (by simp)])
    clear hrun hrd
    have hln : l.length = n := by have := H2.out.1; rw [bv_len] at this; omega
    have Hsm : Hid (∀ x ∈ l.drop at_, x < 256) := fun x hx => H6.out x (List.mem_of_mem_drop hx)
    have Hlen : (take1 (l.drop at_) most).1 ≤ n - at_ := by have := take1_len (l.drop at_) most; rw [List.length_drop, hln] at this; exact this
    by_cases ht : (take1 (l.drop at_) most).2.1 = 0
    · have Ht := Lib.hid ht
      have Hnum2 : Hid (numRS ⟨l, at_, 0⟩ most = (⟨l, at_ + (take1 (l.drop at_) most).1, 0⟩, (take1 (l.drop at_) most).2.2)) := by show _ = _; rw [Hnum.out, if_neg (by simpa using Ht.out)]
      clear ht Hnum hln
      go_enter Tryd.func48, Tryd.ntmps48
      go_wp2_with fail
      refine (readNum_good b (take1 (l.drop at_) most).1 n c at_ A A2 _ _ (fun w' => w' = (((w.alloc (.cells #[.int .u64 (most : Int)] 80)).alloc (.cells #[.int .u64 0] 80)).drew.setCell ⟨w.heap.size + 1, 0, none⟩ (.int .u64 ((take1 (l.drop at_) most).2.2 : Int)))) _ H1a.out (by omega) h5 Hrun.out ?_ ?_).mono ?_
      · rintro w' rfl
        rw [Below.heap_setCell _ _ _ _ (by show b ≠ w.heap.size + 1; omega)]
        exact H1a.out
      · refine (num1_good A2 (n - at_) (c - at_) most w.heap.size (w.heap.size + 1) (.int .u64 0) (l.drop at_) _ ?_ (by omega) Hsm.out ?_ ?_ ?_ Ht.out)
        · exact ((((Hrd.out.more (by omega)).alloc (Nat.le_refl _) _).alloc (by simp) _).drew).more (by simp; omega)
        · simp [go_sem]
        · simp [go_sem]
        · simp [go_sem]
      · rintro e w' ⟨rfl, w2, rfl, rfl⟩
        have hne : (w.heap.size + 1) ≠ b := by omega
        generalize (take1 (l.drop at_) most).2.2 = v at *
        generalize hk : (take1 (l.drop at_) most).1 = k at *
        have hc9 : (((w.alloc (.cells #[.int .u64 (most : Int)] 80)).alloc (.cells #[.int .u64 0] 80)).drew.setCell ⟨w.heap.size + 1, 0, none⟩ (.int .u64 (v : Int))).heap[w.heap.size + 1]? = some (.cells #[.int .u64 (v : Int)] 80 (0, 0)) := by
          have := Joins.block_setCell (w := ((w.alloc (.cells #[.int .u64 (most : Int)] 80)).alloc (.cells #[.int .u64 0] 80)).drew) (g := w.heap.size + 1) (i := 0) (cs := #[.int .u64 0]) (t := 80) (fr := (0, 0)) (by have := heap_alloc_new (w.alloc (.cells #[.int .u64 (most : Int)] 80)) (.cells #[.int .u64 0] 80); rw [World.size_alloc] at this; exact this) (.int .u64 (v : Int))
          simpa using this
        have hb9 : (((w.alloc (.cells #[.int .u64 (most : Int)] 80)).alloc (.cells #[.int .u64 0] 80)).drew.setCell ⟨w.heap.size + 1, 0, none⟩ (.int .u64 (v : Int))).heap[b]? = some (.cells #[.slice A n c, .int .i64 (at_ : Int), .int .i64 0] 113 (0, 0)) := by
          rw [Below.heap_setCell _ _ _ _ (by show b ≠ w.heap.size + 1; omega)]; exact H1a.out
        have hg9 : w.grownBy (((w.alloc (.cells #[.int .u64 (most : Int)] 80)).alloc (.cells #[.int .u64 0] 80)).drew.setCell ⟨w.heap.size + 1, 0, none⟩ (.int .u64 (v : Int))) none :=
          grown_set_new (grown_drew (grown_trans (grown_alloc w _ none) (grown_alloc _ _ none))) (by omega) 0 _
        generalize (((w.alloc (.cells #[.int .u64 (most : Int)] 80)).alloc (.cells #[.int .u64 0] 80)).drew.setCell ⟨w.heap.size + 1, 0, none⟩ (.int .u64 (v : Int))) = w9 at *
        have hcell : (w9.setCell ⟨b, 1, none⟩ (.int .i64 ((at_ : Int) + (k : Int)))).cell? ⟨w.heap.size + 1, 0, none⟩ = some (.int .u64 (v : Int)) := by
          have := block_cell (w := w9.setCell ⟨b, 1, none⟩ (.int .i64 ((at_ : Int) + (k : Int)))) ((Below.heap_setCell w9 ⟨b, 1, none⟩ (.int .i64 ((at_ : Int) + (k : Int))) (w.heap.size + 1) hne).trans hc9) 0
          simpa using this
        have Hg9 := Lib.hid hg9
        have Hb9 := Lib.hid hb9
        have Hk := Lib.hid hk
        clear hg9 hb9 hc9 hk
        go_wp2
        go_ret
        rw [Hnum2.out]
        refine ⟨rfl, ⟨A, n, c, ?_, ?_, h3, by have := Hk.out; show at_ + k ≤ n; omega, h5, H6.out⟩, ?_⟩
        · have := Joins.block_setCell (i := 1) Hb9.out (.int .i64 ((at_ : Int) + (k : Int)))
          simpa using this
        · exact ((H2.out.grown Hg9.out (by omega) (fun g hg => by cases hg))).setCell (by show b ≤ b; omega) _
        · have h7 : w.grownBy w9 (some b) := ⟨Hg9.out.os, Hg9.out.tape, Hg9.out.output, Hg9.out.size, fun k hk _ => Hg9.out.block k hk (by simp)⟩
          exact grown_trans h7 (grown_set _ _ _)
    · have Ht := Lib.hid ht
      have Hnum2 : Hid (numRS ⟨l, at_, 0⟩ most = (⟨l, at_, (take1 (l.drop at_) most).2.1⟩, 0)) := by show _ = _; rw [Hnum.out, if_pos (by simpa using Ht.out)]
      clear ht Hnum hln
      go_enter Tryd.func48, Tryd.ntmps48
      go_wp2_with fail
      refine (readNum_bad b n c at_ (take1 (l.drop at_) most).2.1 A A2 _ _ (fun w' => w' = ((w.alloc (.cells #[.int .u64 (most : Int)] 80)).alloc (.cells #[.int .u64 0] 80)).drew) _ H1a.out (by omega) h5 Ht.out Hrun.out ?_ ?_).mono ?_
      · rintro w' rfl
        exact H1a.out
      · refine (num1_bad A2 (n - at_) (c - at_) most w.heap.size (w.heap.size + 1) (l.drop at_) _ ?_ (by omega) Hsm.out ?_ Ht.out).mono ?_
        · exact ((((Hrd.out.more (by omega)).alloc (Nat.le_refl _) _).alloc (by simp) _).drew).more (by simp; omega)
        · simp [go_sem]
        · rintro e w' ⟨rfl, rfl⟩
          exact ⟨rfl, rfl⟩
      · rintro e w' ⟨rfl, w2, rfl, rfl⟩
        generalize (take1 (l.drop at_) most).2.1 = v at *
        have hb9 : (((w.alloc (.cells #[.int .u64 (most : Int)] 80)).alloc (.cells #[.int .u64 0] 80)).drew).heap[w.heap.size + 1]? = some (.cells #[.int .u64 0] 80 (0, 0)) := by
          have := heap_alloc_new (w.alloc (.cells #[.int .u64 (most : Int)] 80)) (.cells #[.int .u64 0] 80)
          rw [World.size_alloc] at this
          exact this
        have hcell : (((w.alloc (.cells #[.int .u64 (most : Int)] 80)).alloc (.cells #[.int .u64 0] 80)).drew.setCell ⟨b, 2, none⟩ (.int .i64 v)).cell? ⟨w.heap.size + 1, 0, none⟩ = some (.int .u64 0) := by
          have := block_cell (w := ((w.alloc (.cells #[.int .u64 (most : Int)] 80)).alloc (.cells #[.int .u64 0] 80)).drew.setCell ⟨b, 2, none⟩ (.int .i64 v)) ((Below.heap_setCell _ ⟨b, 2, none⟩ (.int .i64 v) (w.heap.size + 1) (by show w.heap.size + 1 ≠ b; omega)).trans hb9) 0
          simpa using this
        clear hb9
        have hb8 : (((w.alloc (.cells #[.int .u64 (most : Int)] 80)).alloc (.cells #[.int .u64 0] 80)).drew).heap[b]? = some (.cells #[.slice A n c, .int .i64 (at_ : Int), .int .i64 0] 113 (0, 0)) := H1a.out
        have hg9 : w.grownBy (((w.alloc (.cells #[.int .u64 (most : Int)] 80)).alloc (.cells #[.int .u64 0] 80)).drew) none :=
          (grown_drew (grown_trans (grown_alloc w _ none) (grown_alloc _ _ none)))
        generalize (((w.alloc (.cells #[.int .u64 (most : Int)] 80)).alloc (.cells #[.int .u64 0] 80)).drew) = w9 at *
        have Hg9 := Lib.hid hg9
        have Hb9 := Lib.hid hb8
        clear hg9 hb8
        go_wp2
        go_ret
        rw [Hnum2.out]
        refine ⟨rfl, ⟨A, n, c, ?_, ?_, h3, h4, h5, H6.out⟩, ?_⟩
        · have := Joins.block_setCell (i := 2) Hb9.out (.int .i64 v)
          simpa using this
        · exact ((H2.out.grown Hg9.out (by omega) (fun g hg => by cases hg))).setCell (by show b ≤ b; omega) _
        · have h7 : w.grownBy w9 (some b) := ⟨Hg9.out.os, Hg9.out.tape, Hg9.out.output, Hg9.out.size, fun k hk _ => Hg9.out.block k hk (by simp)⟩
          exact grown_trans h7 (grown_set _ _ _)
  · have Hnum2 : Hid (numRS ⟨l, at_, err⟩ most = (⟨l, at_, err⟩, 0)) := by show _ = _; unfold numRS; rw [if_pos (by simpa using he)]
    have Hbox : Hid (((w.alloc (.cells #[.int .u64 (most : Int)] 80)).alloc (.cells #[.int .u64 0] 80)).cell? ⟨w.heap.size + 1, 0, none⟩ = some (.int .u64 0)) := by show _ = _; simp [go_sem]
    go_enter Tryd.func48, Tryd.ntmps48
    go_wp2_with fail
    refine (read_skip b A n c at_ err _ _ H1a.out he).mono ?_
    rintro e w' ⟨rfl, rfl⟩
    go_wp2
    go_ret
    rw [Hnum2.out]
    refine ⟨rfl, ⟨A, n, c, H1a.out, ?_, h3, h4, h5, H6.out⟩, grown_trans (grown_alloc _ _ _) (grown_alloc _ _ _)⟩
    exact ((H2.out.alloc (by omega) _).alloc (by simp; omega) _)
end Go.Proofs.YtecolkpnllikaaaDoor
