/- The walk of NotaryAlike: any number of signers of one key are alike. Condition: bounds on the lists. -/
import Derived.Test.YtepdinfopcohiaaNoU
import Derived.Test.YtepdinfopcohiaaNoR
namespace Go.Proofs.Ytepdinfopcohiaa
open Go.RowKit Go.Lib


theorem getD_memG {l : List Nat} {k : Nat} (h : k < l.length) : l.getD k 0 ∈ l := by
  rw [List.getD_eq_getElem?_getD, List.getElem?_eq_getElem h]; exact List.getElem_mem h
theorem bookN_all {l : List Nu} {p : Nu → Prop} (h : ∀ x ∈ l, p x) : ∀ k, k ≤ l.length → ∀ x ∈ bookN (l.take k), p x := by
  intro k
  induction k with
  | zero => intro _ x hx; simp [bookN] at hx
  | succ k ih =>
    intro hk x hx
    rw [bookN_take (by omega)] at hx
    have hs := h _ (getD_memN (l := l) (k := k) (by omega))
    generalize l.getD k default = e at *
    unfold signN at hx
    cases hp : posN (bookN (l.take k)) e with
    | some i => rw [hp] at hx; exact ih (by omega) x hx
    | none =>
      rw [hp] at hx
      rcases List.mem_append.1 hx with h1 | h1
      · exact ih (by omega) x h1
      · simp at h1; rw [h1]; exact hs
theorem wp_put {P : Program} {o : Oper} {a : Act} {Q : Exit → Act → World → Prop} {K : Act → World → Prop} (w w' : World) (m x v : Operand) (t : TypeId) (hop : o.op = Op.mapUpdate t m x v)
    (M X V : Value) (hm : a.eval m = M) (hx : a.eval x = X) (hv : a.eval v = V) (hrun : (Instr.mapUpdate t M X V).run P w = .ok () w') (hK : K (a.put o.dst undef) w') : Oper.wp P o a w K Q := by
  unfold Oper.wp
  simp [execOp, hop, hm, hx, hv, hrun, Result.andThen]
  exact hK
theorem SeenAt.kept {w w' : World} {b bk mb : Nat} {W : List Nu} (h : SeenAt w b W) (hk : Kept w w' bk mb) (h1 : b ≠ mb) (h2 : b ≠ bk) : SeenAt w' b W := by
  obtain ⟨es, clock, hb, hes⟩ := h
  exact ⟨es, clock, hk.maps b es clock hb h1 h2, hes⟩
theorem SeenAt.below {w w' : World} {b : Nat} {W : List Nu} (h : SeenAt w b W) (hb : Below w.heap.size w w') : SeenAt w' b W := h.same (hb.block b h.lt)
theorem BookAt.grown {w w' : World} {B bk mb bs : Nat} {L : List En} {W : List Nu} (h : BookAt w B bk mb L) (hs : SeenAt w bs W) (hg : w.grownBy w' (some bs)) (h1 : bs ≠ mb) (h2 : bs ≠ bk) : BookAt w' B bk mb L := by
  obtain ⟨A, n, c, hb, ho⟩ := h.book
  obtain ⟨es, cl, hm, _⟩ := hs
  exact ⟨⟨A, n, c, block_grown hb hg (by intro e; injection e with e; exact h2 e.symm), ho.kept hg (.inr (fun e => own_ne_map ho hm e.symm))⟩, h.places.same (hg.block mb h.places.lt (by intro e; injection e with e; exact h1 e.symm)), h.lb, h.lm, Nat.le_trans h.hB hg.size, h.nodup, h.ok⟩
theorem nodup_of_map {W : List Nu} (h : (W.map Nu.en).Nodup) : W.Nodup := by
  rw [List.nodup_iff_pairwise_ne] at h ⊢
  rw [List.pairwise_map] at h
  exact h.imp fun hne e => hne (by rw [e])
theorem signedN_all {W : List Nu} {k : Nat} (h : ∀ x ∈ W, x.k = k) : (signedN W k).length = W.length := by
  unfold signedN
  rw [List.length_map, List.filter_eq_self.2 (fun x hx => by simp [h x hx])]
set_option maxRecDepth 100000 in
set_option maxHeartbeats 4000000 in
theorem alike_any (key : Nat) (Am : Option Addr) (nm cm : Nat) (ms : List Nat) (Ay : Option Addr) (ny cy : Nat) (ys : List Nat) (w : World) (hkey : key < 18446744073709551616) (hrm : Rd w w.heap.size 1 Am nm (bv64 ms)) (hms : ∀ x ∈ ms, x < 18446744073709551616) (hry : Rd w w.heap.size 1 Ay ny (bvN ys)) (hys : ∀ x ∈ ys, x < 256) :
    Calls Try.prog 4 #[.int .u64 (key : Int), .slice Am nm cm, .slice Ay ny cy] w fun r w' => r = .returned (.bool true) ∧ Below w.heap.size w w' := by
  have Hlm : Hid (ms.length = nm) := by have := hrm.1; show _ = _; simp [bv64] at this; omega
  have Hly : Hid (ys.length = ny) := hry.blenN
  have Hrm := Lib.hid hrm; have Hry := Lib.hid hry; have Hms := Lib.hid hms; have Hys := Lib.hid hys
  clear hrm hry hms hys
  by_cases hbig : 20 < nm
  · have hd0 : decide ((20 : Int) < (nm : Int)) = true := decide_eq_true (by omega)
    clear hbig
    go_enter Try.func4, Try.ntmps4
    go_wp2_with (go_at_call 10; refine (told_any w).mono ?_; rintro r w1 ⟨rfl, hb1⟩; have Hb1 := Lib.hid hb1; clear hb1)
    go_ret
    exact ⟨rfl, Hb1.out⟩
  have hd0 : decide ((20 : Int) < (nm : Int)) = false := decide_eq_false (by omega)
  by_cases hfew : ny < nm
  · have hd1 : decide ((ny : Int) < (nm : Int)) = true := decide_eq_true (by omega)
    clear hbig
    go_enter Try.func4, Try.ntmps4
    go_wp2_with (go_at_call 10; refine (told_any w).mono ?_; rintro r w1 ⟨rfl, hb1⟩; have Hb1 := Lib.hid hb1; clear hb1)
    go_ret
    exact ⟨rfl, Hb1.out⟩
  have hd1 : decide ((ny : Int) < (nm : Int)) = false := decide_eq_false (by omega)
  have hn : nm ≤ 20 := by omega
  have hnn : nm ≤ ny := by omega
  have hna := fun k => nil_sign (w.heap.size + 1) k
  have hme := fun k => meth_sign (w.heap.size + 1) k
  rw [types_many] at hna hme
  have hmm := @run_makeMap Try.prog
  clear hbig hfew
  go_enter Try.func4, Try.ntmps4
  go_wp2_with fail
  refine (newBook_any w).mono ?_
  rintro r w1 ⟨rfl, hB1, hb1⟩
  have HB1 := Lib.hid hB1; have Hb1 := Lib.hid hb1; clear hB1 hb1
  go_wp2_with fail
  refine (digest_any key w1 hkey).mono ?_
  rintro r w2 ⟨rfl, hb⟩
  have HB2 := Lib.hid (HB1.out.below hb); have Hb2 := Lib.hid (Hb1.out.trans (hb.mono Hb1.out.size)); clear hb HB1 Hb1
  go_wp2_with fail
  refine (signer_any _ _ w2).mono ?_
  rintro r w3 ⟨rfl, hb⟩
  have HB3 := Lib.hid (HB2.out.below hb); have Hb3 := Lib.hid (Hb2.out.trans (hb.mono Hb2.out.size)); clear hb HB2 Hb2
  go_wp2_with fail
  refine (digest_any key w3 hkey).mono ?_
  rintro r w4 ⟨rfl, hb⟩
  have HB4 := Lib.hid (HB3.out.below hb); have Hb4 := Lib.hid (Hb3.out.trans (hb.mono Hb3.out.size)); clear hb HB3 Hb3
  go_wp2_with fail
  refine (signer_any _ _ w4).mono ?_
  rintro r w5 ⟨rfl, hb⟩
  have HB5 := Lib.hid (HB4.out.below hb); have Hb5 := Lib.hid (Hb4.out.trans (hb.mono Hb4.out.size)); clear hb HB4 Hb4
  go_wp2_with fail
  refine (digest_any key w5 hkey).mono ?_
  rintro r w6 ⟨rfl, hb⟩
  have HB6 := Lib.hid (HB5.out.below hb); have Hb6 := Lib.hid (Hb5.out.trans (hb.mono Hb5.out.size)); clear hb HB5 Hb5
  go_wp2_with fail
  refine (signer_any _ _ w6).mono ?_
  rintro r w7 ⟨rfl, hb⟩
  have HB7 := Lib.hid (HB6.out.below hb); have Hb7 := Lib.hid (Hb6.out.trans (hb.mono Hb6.out.size)); clear hb HB6 Hb6
  have HL8 : Hid (((w7.alloc (.cells #[.iface 79 (.agg #[.pointer (some ⟨w.heap.size + 1, 0, none⟩), .int .u8 ((D8.of key).x0 : Int), .int .u8 ((D8.of key).x1 : Int), .int .u8 ((D8.of key).x2 : Int), .int .u8 ((D8.of key).x3 : Int), .int .u8 ((D8.of key).x4 : Int), .int .u8 ((D8.of key).x5 : Int), .int .u8 ((D8.of key).x6 : Int), .int .u8 ((D8.of key).x7 : Int)]), .iface 79 (.agg #[.pointer (some ⟨w.heap.size + 1, 0, none⟩), .int .u8 ((D8.of key).x0 : Int), .int .u8 ((D8.of key).x1 : Int), .int .u8 ((D8.of key).x2 : Int), .int .u8 ((D8.of key).x3 : Int), .int .u8 ((D8.of key).x4 : Int), .int .u8 ((D8.of key).x5 : Int), .int .u8 ((D8.of key).x6 : Int), .int .u8 ((D8.of key).x7 : Int)]), .iface 79 (.agg #[.pointer (some ⟨w.heap.size + 1, 0, none⟩), .int .u8 ((D8.of key).x0 : Int), .int .u8 ((D8.of key).x1 : Int), .int .u8 ((D8.of key).x2 : Int), .int .u8 ((D8.of key).x3 : Int), .int .u8 ((D8.of key).x4 : Int), .int .u8 ((D8.of key).x5 : Int), .int .u8 ((D8.of key).x6 : Int), .int .u8 ((D8.of key).x7 : Int)])] 29)).alloc (.map #[] 0)).heap[w7.heap.size]? = some (.cells #[.iface 79 (.agg #[.pointer (some ⟨w.heap.size + 1, 0, none⟩), .int .u8 ((D8.of key).x0 : Int), .int .u8 ((D8.of key).x1 : Int), .int .u8 ((D8.of key).x2 : Int), .int .u8 ((D8.of key).x3 : Int), .int .u8 ((D8.of key).x4 : Int), .int .u8 ((D8.of key).x5 : Int), .int .u8 ((D8.of key).x6 : Int), .int .u8 ((D8.of key).x7 : Int)]), .iface 79 (.agg #[.pointer (some ⟨w.heap.size + 1, 0, none⟩), .int .u8 ((D8.of key).x0 : Int), .int .u8 ((D8.of key).x1 : Int), .int .u8 ((D8.of key).x2 : Int), .int .u8 ((D8.of key).x3 : Int), .int .u8 ((D8.of key).x4 : Int), .int .u8 ((D8.of key).x5 : Int), .int .u8 ((D8.of key).x6 : Int), .int .u8 ((D8.of key).x7 : Int)]), .iface 79 (.agg #[.pointer (some ⟨w.heap.size + 1, 0, none⟩), .int .u8 ((D8.of key).x0 : Int), .int .u8 ((D8.of key).x1 : Int), .int .u8 ((D8.of key).x2 : Int), .int .u8 ((D8.of key).x3 : Int), .int .u8 ((D8.of key).x4 : Int), .int .u8 ((D8.of key).x5 : Int), .int .u8 ((D8.of key).x6 : Int), .int .u8 ((D8.of key).x7 : Int)])] 29 (0, 0))) := block_alloc (heap_alloc_new w7 _) _
  have HSe8 : Hid (SeenAt ((w7.alloc (.cells #[.iface 79 (.agg #[.pointer (some ⟨w.heap.size + 1, 0, none⟩), .int .u8 ((D8.of key).x0 : Int), .int .u8 ((D8.of key).x1 : Int), .int .u8 ((D8.of key).x2 : Int), .int .u8 ((D8.of key).x3 : Int), .int .u8 ((D8.of key).x4 : Int), .int .u8 ((D8.of key).x5 : Int), .int .u8 ((D8.of key).x6 : Int), .int .u8 ((D8.of key).x7 : Int)]), .iface 79 (.agg #[.pointer (some ⟨w.heap.size + 1, 0, none⟩), .int .u8 ((D8.of key).x0 : Int), .int .u8 ((D8.of key).x1 : Int), .int .u8 ((D8.of key).x2 : Int), .int .u8 ((D8.of key).x3 : Int), .int .u8 ((D8.of key).x4 : Int), .int .u8 ((D8.of key).x5 : Int), .int .u8 ((D8.of key).x6 : Int), .int .u8 ((D8.of key).x7 : Int)]), .iface 79 (.agg #[.pointer (some ⟨w.heap.size + 1, 0, none⟩), .int .u8 ((D8.of key).x0 : Int), .int .u8 ((D8.of key).x1 : Int), .int .u8 ((D8.of key).x2 : Int), .int .u8 ((D8.of key).x3 : Int), .int .u8 ((D8.of key).x4 : Int), .int .u8 ((D8.of key).x5 : Int), .int .u8 ((D8.of key).x6 : Int), .int .u8 ((D8.of key).x7 : Int)])] 29)).alloc (.map #[] 0)) (w7.heap.size + 1) []) := by
    refine ⟨#[], 0, ?_, rfl⟩
    have := heap_alloc_new (w7.alloc (.cells #[.iface 79 (.agg #[.pointer (some ⟨w.heap.size + 1, 0, none⟩), .int .u8 ((D8.of key).x0 : Int), .int .u8 ((D8.of key).x1 : Int), .int .u8 ((D8.of key).x2 : Int), .int .u8 ((D8.of key).x3 : Int), .int .u8 ((D8.of key).x4 : Int), .int .u8 ((D8.of key).x5 : Int), .int .u8 ((D8.of key).x6 : Int), .int .u8 ((D8.of key).x7 : Int)]), .iface 79 (.agg #[.pointer (some ⟨w.heap.size + 1, 0, none⟩), .int .u8 ((D8.of key).x0 : Int), .int .u8 ((D8.of key).x1 : Int), .int .u8 ((D8.of key).x2 : Int), .int .u8 ((D8.of key).x3 : Int), .int .u8 ((D8.of key).x4 : Int), .int .u8 ((D8.of key).x5 : Int), .int .u8 ((D8.of key).x6 : Int), .int .u8 ((D8.of key).x7 : Int)]), .iface 79 (.agg #[.pointer (some ⟨w.heap.size + 1, 0, none⟩), .int .u8 ((D8.of key).x0 : Int), .int .u8 ((D8.of key).x1 : Int), .int .u8 ((D8.of key).x2 : Int), .int .u8 ((D8.of key).x3 : Int), .int .u8 ((D8.of key).x4 : Int), .int .u8 ((D8.of key).x5 : Int), .int .u8 ((D8.of key).x6 : Int), .int .u8 ((D8.of key).x7 : Int)])] 29)) (.map #[] 0)
    simpa using this
  have hb8 : Below w7.heap.size w7 ((w7.alloc (.cells #[.iface 79 (.agg #[.pointer (some ⟨w.heap.size + 1, 0, none⟩), .int .u8 ((D8.of key).x0 : Int), .int .u8 ((D8.of key).x1 : Int), .int .u8 ((D8.of key).x2 : Int), .int .u8 ((D8.of key).x3 : Int), .int .u8 ((D8.of key).x4 : Int), .int .u8 ((D8.of key).x5 : Int), .int .u8 ((D8.of key).x6 : Int), .int .u8 ((D8.of key).x7 : Int)]), .iface 79 (.agg #[.pointer (some ⟨w.heap.size + 1, 0, none⟩), .int .u8 ((D8.of key).x0 : Int), .int .u8 ((D8.of key).x1 : Int), .int .u8 ((D8.of key).x2 : Int), .int .u8 ((D8.of key).x3 : Int), .int .u8 ((D8.of key).x4 : Int), .int .u8 ((D8.of key).x5 : Int), .int .u8 ((D8.of key).x6 : Int), .int .u8 ((D8.of key).x7 : Int)]), .iface 79 (.agg #[.pointer (some ⟨w.heap.size + 1, 0, none⟩), .int .u8 ((D8.of key).x0 : Int), .int .u8 ((D8.of key).x1 : Int), .int .u8 ((D8.of key).x2 : Int), .int .u8 ((D8.of key).x3 : Int), .int .u8 ((D8.of key).x4 : Int), .int .u8 ((D8.of key).x5 : Int), .int .u8 ((D8.of key).x6 : Int), .int .u8 ((D8.of key).x7 : Int)])] 29)).alloc (.map #[] 0)) := (below_one w7 _).alloc (by simp) _
  have HB8 := Lib.hid (HB7.out.below hb8)
  have Hb8 := Lib.hid (Hb7.out.trans (hb8.mono Hb7.out.size))
  have hz7 : w.heap.size + 2 ≤ w7.heap.size := HB7.out.hB
  clear hb8 HB7 Hb7
  go_wp2
  generalize w7.heap.size = bl at *
  generalize (w7.alloc (.cells #[.iface 79 (.agg #[.pointer (some ⟨w.heap.size + 1, 0, none⟩), .int .u8 ((D8.of key).x0 : Int), .int .u8 ((D8.of key).x1 : Int), .int .u8 ((D8.of key).x2 : Int), .int .u8 ((D8.of key).x3 : Int), .int .u8 ((D8.of key).x4 : Int), .int .u8 ((D8.of key).x5 : Int), .int .u8 ((D8.of key).x6 : Int), .int .u8 ((D8.of key).x7 : Int)]), .iface 79 (.agg #[.pointer (some ⟨w.heap.size + 1, 0, none⟩), .int .u8 ((D8.of key).x0 : Int), .int .u8 ((D8.of key).x1 : Int), .int .u8 ((D8.of key).x2 : Int), .int .u8 ((D8.of key).x3 : Int), .int .u8 ((D8.of key).x4 : Int), .int .u8 ((D8.of key).x5 : Int), .int .u8 ((D8.of key).x6 : Int), .int .u8 ((D8.of key).x7 : Int)]), .iface 79 (.agg #[.pointer (some ⟨w.heap.size + 1, 0, none⟩), .int .u8 ((D8.of key).x0 : Int), .int .u8 ((D8.of key).x1 : Int), .int .u8 ((D8.of key).x2 : Int), .int .u8 ((D8.of key).x3 : Int), .int .u8 ((D8.of key).x4 : Int), .int .u8 ((D8.of key).x5 : Int), .int .u8 ((D8.of key).x6 : Int), .int .u8 ((D8.of key).x7 : Int)])] 29)).alloc (.map #[] 0) = w8 at *
  have Hp : Hid (∀ x ∈ ms.map (Nu.mk key), x.k = key ∧ x.m < 18446744073709551616) := by
    intro x hx
    obtain ⟨m, hm, rfl⟩ := List.mem_map.1 hx
    exact ⟨rfl, Hms.out m hm⟩
  have hll : (ms.map (Nu.mk key)).length = nm := by rw [List.length_map]; exact Hlm.out
  have Hll := Lib.hid hll
  clear hll
  go_loopw [10] (fun i wr => ∃ (k : Nat), k ≤ nm ∧ i = .int .i64 (k : Int) ∧ Hid (BookAt wr (w.heap.size + 2) (w.heap.size + 1) w.heap.size ((bookN ((ms.map (Nu.mk key)).take k)).map Nu.en)) ∧ Hid (SeenAt wr (bl + 1) (bookN ((ms.map (Nu.mk key)).take k))) ∧ Hid (wr.heap[bl]? = some (.cells #[.iface 79 (.agg #[.pointer (some ⟨w.heap.size + 1, 0, none⟩), .int .u8 ((D8.of key).x0 : Int), .int .u8 ((D8.of key).x1 : Int), .int .u8 ((D8.of key).x2 : Int), .int .u8 ((D8.of key).x3 : Int), .int .u8 ((D8.of key).x4 : Int), .int .u8 ((D8.of key).x5 : Int), .int .u8 ((D8.of key).x6 : Int), .int .u8 ((D8.of key).x7 : Int)]), .iface 79 (.agg #[.pointer (some ⟨w.heap.size + 1, 0, none⟩), .int .u8 ((D8.of key).x0 : Int), .int .u8 ((D8.of key).x1 : Int), .int .u8 ((D8.of key).x2 : Int), .int .u8 ((D8.of key).x3 : Int), .int .u8 ((D8.of key).x4 : Int), .int .u8 ((D8.of key).x5 : Int), .int .u8 ((D8.of key).x6 : Int), .int .u8 ((D8.of key).x7 : Int)]), .iface 79 (.agg #[.pointer (some ⟨w.heap.size + 1, 0, none⟩), .int .u8 ((D8.of key).x0 : Int), .int .u8 ((D8.of key).x1 : Int), .int .u8 ((D8.of key).x2 : Int), .int .u8 ((D8.of key).x3 : Int), .int .u8 ((D8.of key).x4 : Int), .int .u8 ((D8.of key).x5 : Int), .int .u8 ((D8.of key).x6 : Int), .int .u8 ((D8.of key).x7 : Int)])] 29 (0, 0))) ∧ Hid (Below w.heap.size w wr)) (fun i _ => nm - (Lib.intOf i).toNat)
  case atStart => exact ⟨0, Nat.zero_le _, rfl, HB8, HSe8, HL8, Hb8⟩
  case round =>
    obtain ⟨k, hk, rfl, HB, HSe, HL, Hb⟩ := hrel
    have Hall := Lib.hid (bookN_all Hp.out k (by have := Hll.out; omega))
    have Hln := Lib.hid (bookN_len (l := ms.map (Nu.mk key)) k (by have := Hll.out; omega))
    by_cases hlt : k < nm
    · obtain ⟨bm, om, rfl, hbm, xm⟩ := (Hrm.out.below Hb.out (Nat.le_refl _)).n64 hlt
      obtain ⟨by', oy, rfl, hby, xy⟩ := (Hry.out.below Hb.out (Nat.le_refl _)).byteN (k := k) (by omega)
      have hmlt := Hms.out _ (getD_memG (l := ms) (k := k) (by have := Hlm.out; omega))
      have hylt := Hys.out _ (getD_memG (l := ys) (k := k) (by have := Hly.out; omega))
      have Htk := Lib.hid (bookN_take (l := ms.map (Nu.mk key)) (k := k) (by have := Hll.out; omega))
      have hget : (ms.map (Nu.mk key)).getD k default = ⟨key, ms.getD k 0⟩ := by
        have hkl : k < ms.length := by have := Hlm.out; omega
        simp [List.getD_eq_getElem?_getD, hkl]
      rw [hget] at Htk
      generalize bookN ((ms.map (Nu.mk key)).take k) = W at *
      generalize ms.getD k 0 = m at *
      generalize ys.getD k 0 = y at *
      obtain ⟨r, hr, hr3⟩ : ∃ r : Nat, (y : Int) % 3 = (r : Int) ∧ r < 3 := ⟨y % 3, by omega, by omega⟩
      have Hn : Hid W.Nodup := nodup_of_map HB.out.nodup
      have Hok : Hid (∀ x ∈ W, x.ok) := fun x hx => by
        obtain ⟨h1, h2⟩ := Hall.out x hx
        exact ⟨by rw [h1]; exact hkey, h2⟩
      have hd2 : decide ((k : Int) < (nm : Int)) = true := decide_eq_true (by omega)
      have hi0 : (0 : Int) ≤ (k : Int) := by omega
      have hki : (k : Int) < (nm : Int) := by omega
      have hky : (k : Int) < (ny : Int) := by omega
      have hr0 : (0 : Int) ≤ (r : Int) := by omega
      have hri : (r : Int) < 3 := by omega
      have hrt : (y : Int).tmod 3 = (r : Int) := by rw [Int.tmod_eq_emod_of_nonneg (by omega)]; exact hr
      have xl : wr.cell? ⟨bl, r, none⟩ = some (.iface 79 (.agg #[.pointer (some ⟨w.heap.size + 1, 0, none⟩), .int .u8 ((D8.of key).x0 : Int), .int .u8 ((D8.of key).x1 : Int), .int .u8 ((D8.of key).x2 : Int), .int .u8 ((D8.of key).x3 : Int), .int .u8 ((D8.of key).x4 : Int), .int .u8 ((D8.of key).x5 : Int), .int .u8 ((D8.of key).x6 : Int), .int .u8 ((D8.of key).x7 : Int)])) := by
        rw [block_cell HL.out]
        have : r = 0 ∨ r = 1 ∨ r = 2 := by omega
        rcases this with rfl | rfl | rfl <;> rfl
      clear hget
      go_wp2_with fail
      refine wp_region_held_drew (S := fun w' => w'.cell? ⟨by', oy + k, none⟩ = some (.int .u8 (y : Int)) ∧ w'.cell? ⟨bm, om + k, none⟩ = some (.int .u64 (m : Int)) ∧ w'.cell? ⟨bl, r, none⟩ = some (.iface 79 (.agg #[.pointer (some ⟨w.heap.size + 1, 0, none⟩), .int .u8 ((D8.of key).x0 : Int), .int .u8 ((D8.of key).x1 : Int), .int .u8 ((D8.of key).x2 : Int), .int .u8 ((D8.of key).x3 : Int), .int .u8 ((D8.of key).x4 : Int), .int .u8 ((D8.of key).x5 : Int), .int .u8 ((D8.of key).x6 : Int), .int .u8 ((D8.of key).x7 : Int)]))) (by kernel_rfl) ⟨xy, xm, xl⟩ (fun hHeld => ?_)
      refine takeH 0 (some 66) (v := ?_) rfl (by kernel_rfl) (by kernel_rfl) (by kernel_rfl) (by kernel_rfl) (fun _ _ _ h => h) (Or.inl ⟨by kernel_rfl, ?hy⟩) (by assumption) ?_
      case hy =>
        intro w' hSw
        try dsimp only at hSw
        first
          | (go_simp; done)
          | (go_simp; with_reducible rfl)
      simp only [Act.put, List.setIfInBounds_toArray, List.set_cons_zero, List.set_cons_succ]
      refine takeH 1 (some 67) (v := ?_) rfl (by kernel_rfl) (by kernel_rfl) (by kernel_rfl) (by kernel_rfl) (fun _ _ _ h => h) (Or.inl ⟨by kernel_rfl, ?hy⟩) (by assumption) ?_
      case hy =>
        intro w' hSw
        try dsimp only at hSw
        first
          | (go_simp; done)
          | (go_simp; with_reducible rfl)
      simp only [Act.put, List.setIfInBounds_toArray, List.set_cons_zero, List.set_cons_succ]
      refine takeH 2 (some 68) (v := ?_) rfl (by kernel_rfl) (by kernel_rfl) (by kernel_rfl) (by kernel_rfl) (fun _ _ _ h => h) (Or.inl ⟨by kernel_rfl, ?hy⟩) (by assumption) ?_
      case hy =>
        intro w' hSw
        try dsimp only at hSw
        first
          | (go_simp; done)
          | (go_simp; with_reducible rfl)
      simp only [Act.put, List.setIfInBounds_toArray, List.set_cons_zero, List.set_cons_succ]
      refine takeH 3 (some 69) (v := ?_) rfl (by kernel_rfl) (by kernel_rfl) (by kernel_rfl) (by kernel_rfl) (fun _ _ _ h => h) (Or.inl ⟨by kernel_rfl, ?hy⟩) (by assumption) ?_
      case hy =>
        intro w' hSw
        try dsimp only at hSw
        first
          | (go_simp; done)
          | (go_simp; with_reducible rfl)
      simp only [Act.put, List.setIfInBounds_toArray, List.set_cons_zero, List.set_cons_succ]
      refine takeH 4 (some 70) (v := ?_) rfl (by kernel_rfl) (by kernel_rfl) (by kernel_rfl) (by kernel_rfl) (fun _ _ _ h => h) (Or.inl ⟨by kernel_rfl, ?hy⟩) (by assumption) ?_
      case hy =>
        intro w' hSw
        try dsimp only at hSw
        first
          | (go_simp; done)
          | (go_simp; with_reducible rfl)
      simp only [Act.put, List.setIfInBounds_toArray, List.set_cons_zero, List.set_cons_succ]
      refine takeH 5 (some 71) (v := ?_) rfl (by kernel_rfl) (by kernel_rfl) (by kernel_rfl) (by kernel_rfl) (fun _ _ _ h => h) (Or.inl ⟨by kernel_rfl, ?hy⟩) (by assumption) ?_
      case hy =>
        intro w' hSw
        try dsimp only at hSw
        first
          | (go_simp; done)
          | (go_simp; with_reducible rfl)
      simp only [Act.put, List.setIfInBounds_toArray, List.set_cons_zero, List.set_cons_succ]
      refine takeH 6 (some 72) (v := ?_) rfl (by kernel_rfl) (by kernel_rfl) (by kernel_rfl) (by kernel_rfl) (fun _ _ _ h => h) (Or.inl ⟨by kernel_rfl, ?hy⟩) (by assumption) ?_
      case hy =>
        intro w' hSw
        try dsimp only at hSw
        first
          | (go_simp; done)
          | (go_simp; with_reducible rfl)
      simp only [Act.put, List.setIfInBounds_toArray, List.set_cons_zero, List.set_cons_succ]
      refine takeH 7 (some 73) (v := ?_) rfl (by kernel_rfl) (by kernel_rfl) (by kernel_rfl) (by kernel_rfl) (fun _ _ _ h => h) (Or.inl ⟨by kernel_rfl, ?hy⟩) (by assumption) ?_
      case hy =>
        intro w' hSw
        try dsimp only at hSw
        first
          | (go_simp; done)
          | (go_simp; with_reducible rfl)
      simp only [Act.put, List.setIfInBounds_toArray, List.set_cons_zero, List.set_cons_succ]
      refine takeH 8 (some 74) (v := ?_) rfl (by kernel_rfl) (by kernel_rfl) (by kernel_rfl) (by kernel_rfl) (fun _ _ _ h => h) (Or.inl ⟨by kernel_rfl, ?hy⟩) (by assumption) ?_
      case hy =>
        intro w' hSw
        try dsimp only at hSw
        first
          | (go_simp; done)
          | (go_simp; with_reducible rfl)
      simp only [Act.put, List.setIfInBounds_toArray, List.set_cons_zero, List.set_cons_succ]
      refine takeH 9 (some 75) (v := ?_) rfl (by kernel_rfl) (by kernel_rfl) (by kernel_rfl) (by kernel_rfl) (fun _ _ _ h => h) (Or.inl ⟨by kernel_rfl, ?hy⟩) (by assumption) ?_
      case hy =>
        intro w' hSw
        try dsimp only at hSw
        first
          | (go_simp; done)
          | (go_simp; with_reducible rfl)
      simp only [Act.put, List.setIfInBounds_toArray, List.set_cons_zero, List.set_cons_succ]
      refine takeH 10 (some 76) (v := ?_) rfl (by kernel_rfl) (by kernel_rfl) (by kernel_rfl) (by kernel_rfl) (fun _ _ _ h => h) (Or.inl ⟨by kernel_rfl, ?hy⟩) (by assumption) ?_
      case hy =>
        intro w' hSw
        try dsimp only at hSw
        first
          | (go_simp; done)
          | (go_simp; with_reducible rfl)
      simp only [Act.put, List.setIfInBounds_toArray, List.set_cons_zero, List.set_cons_succ]
      refine takeH 11 (some 77) (v := ?_) rfl (by kernel_rfl) (by kernel_rfl) (by kernel_rfl) (by kernel_rfl) (fun _ _ _ h => h) (Or.inl ⟨by kernel_rfl, ?hy⟩) (by assumption) ?_
      case hy =>
        intro w' hSw
        try dsimp only at hSw
        first
          | (go_simp; done)
          | (go_simp; with_reducible rfl)
      simp only [Act.put, List.setIfInBounds_toArray, List.set_cons_zero, List.set_cons_succ]
      refine takeH 13 (some 79) (v := ?_) rfl (by kernel_rfl) (by kernel_rfl) (by kernel_rfl) (by kernel_rfl) (fun _ _ _ h => h) (Or.inl ⟨by kernel_rfl, ?hy⟩) (by assumption) ?_
      case hy =>
        intro w' hSw
        try dsimp only at hSw
        first
          | (go_simp; done)
          | (go_simp; with_reducible rfl)
      simp only [Act.put, List.setIfInBounds_toArray, List.set_cons_zero, List.set_cons_succ]
      refine takeH 14 (some 80) (v := ?_) rfl (by kernel_rfl) (by kernel_rfl) (by kernel_rfl) (by kernel_rfl) (fun _ _ _ h => h) (Or.inl ⟨by kernel_rfl, ?hy⟩) (by assumption) ?_
      case hy =>
        intro w' hSw
        try dsimp only at hSw
        first
          | (go_simp; done)
          | (go_simp; with_reducible rfl)
      simp only [Act.put, List.setIfInBounds_toArray, List.set_cons_zero, List.set_cons_succ]
      refine wpAnyH_ready (rs := [12]) (by kernel_rfl) (by simp) ?_
      refine AllReadyH.cons rfl (fun K hK => ?_) AllReadyH.nil
      rw [if_pos (by kernel_rfl)]
      go_simp
      refine (digest_any m wr.drew hmlt).mono ?_
      rintro r9 v1 ⟨rfl, hb⟩
      have hq := (Below.refl wr.heap.size wr).drew.trans hb
      have hS : _ ∧ _ ∧ _ := ⟨cell_kept xy hq (by have := Hb.out.size; omega), cell_kept xm hq (by have := Hb.out.size; omega), cell_kept xl hq (block_lt HL.out)⟩
      have HB1 := Lib.hid (HB.out.below hq); have HSe1 := Lib.hid (HSe.out.below hq); have HL1 := Lib.hid (block_below HL.out hq (block_lt HL.out)); have Hb1 := Lib.hid (Hb.out.trans (hq.mono Hb.out.size))
      clear hb hq HB HSe HL Hb xy xm xl
      refine hK.out _ _ hS (fun _ => ?_)
      clear hK K
      refine wpAnyH_ready (rs := [15]) (by kernel_rfl) (by simp) ?_
      refine AllReadyH.cons rfl (fun K hK => ?_) AllReadyH.nil
      rw [if_pos (by kernel_rfl)]
      go_simp
      refine (wsign_any _ _ _ _ (D8.of key) (D8.of m) v1 HB1.out (d8_ok _) (d8_ok _) (by rw [List.length_map]; have := Hln.out; omega)).mono ?_
      rintro r9 v2 ⟨g, rfl, h81, h82, h83, h84⟩
      have hse := sign_en (l := W) (e := ⟨key, m⟩) Hok.out ⟨hkey, hmlt⟩
      rw [show (⟨D8.of key, D8.of m⟩ : En) = (Nu.mk key m).en from rfl, hse] at h82 h83
      have hq8 := h84.below (B := w.heap.size) (by omega) (Nat.le_refl _)
      have HS2 := Lib.hid h82; have HB2 := Lib.hid h83; have HSe2 := Lib.hid (HSe1.out.kept h84 (by omega) (by omega)); have HL2 := Lib.hid (h84.typed bl _ _ _ HL1.out (by decide) (by omega)); have Hb2 := Lib.hid (Hb1.out.trans hq8)
      have hS2 : _ ∧ _ ∧ _ := ⟨cell_kept hS.1 hq8 hby, cell_kept hS.2.1 hq8 hbm, (block_cell HL2.out r).trans ((block_cell HL1.out r).symm.trans hS.2.2)⟩
      have Hxm := Lib.hid hS2.2.1
      clear hse h81 h82 h83 h84 hq8 hS HB1 HSe1 HL1 Hb1
      refine hK.out _ _ hS2 (fun _ => ?_)
      clear hK K hS2
      refine takeH 16 (some 65) (v := ?_) rfl (by kernel_rfl) (by kernel_rfl) (by kernel_rfl) (by kernel_rfl) (fun _ _ _ h => h) (Or.inl ⟨by kernel_rfl, ?hy⟩) (by assumption) ?_
      case hy =>
        intro w' hSw
        try dsimp only at hSw
        first
          | (go_simp; done)
          | (go_simp; with_reducible rfl)
      simp only [Act.put, List.setIfInBounds_toArray, List.set_cons_zero, List.set_cons_succ]
      refine takeH 17 (some 82) (v := ?_) rfl (by kernel_rfl) (by kernel_rfl) (by kernel_rfl) (by kernel_rfl) (fun _ _ _ h => h) (Or.inl ⟨by kernel_rfl, ?hy⟩) (by assumption) ?_
      case hy =>
        intro w' hSw
        try dsimp only at hSw
        first
          | (go_simp; done)
          | (go_simp; with_reducible rfl)
      simp only [Act.put, List.setIfInBounds_toArray, List.set_cons_zero, List.set_cons_succ]
      refine takeH 18 (some 83) (v := ?_) rfl (by kernel_rfl) (by kernel_rfl) (by kernel_rfl) (by kernel_rfl) (fun _ _ _ h => h) (Or.inl ⟨by kernel_rfl, ?hy⟩) (by assumption) ?_
      case hy =>
        intro w' hSw
        try dsimp only at hSw
        first
          | (go_simp; done)
          | (go_simp; with_reducible rfl)
      simp only [Act.put, List.setIfInBounds_toArray, List.set_cons_zero, List.set_cons_succ]
      refine takeH 19 (some 11) (v := ?_) rfl (by kernel_rfl) (by kernel_rfl) (by kernel_rfl) (by kernel_rfl) (fun _ _ _ h => h) (Or.inl ⟨by kernel_rfl, ?hy⟩) (by assumption) ?_
      case hy =>
        intro w' hSw
        try dsimp only at hSw
        first
          | (go_simp; done)
          | (go_simp; with_reducible rfl)
      simp only [Act.put, List.setIfInBounds_toArray, List.set_cons_zero, List.set_cons_succ]
      refine takeH 20 (some 12) (v := ?_) rfl (by kernel_rfl) (by kernel_rfl) (by kernel_rfl) (by kernel_rfl) (fun _ _ _ h => h) (Or.inl ⟨by kernel_rfl, ?hy⟩) (by assumption) ?_
      case hy =>
        intro w' hSw
        try dsimp only at hSw
        first
          | (go_simp; done)
          | (go_simp; with_reducible rfl)
      simp only [Act.put, List.setIfInBounds_toArray, List.set_cons_zero, List.set_cons_succ]
      refine wpAnyH_done (by kernel_rfl) ?_ _
      have hlook := look_seen HSe2.out Hn.out Hall.out m hmlt
      have Hput := Lib.hid (fun (u : World) (h : SeenAt u (bl + 1) W) => put_seen h Hn.out Hall.out m hmlt)
      have c1 := conv_sig HS2.out 2
      have Hsl := Lib.hid (signN_len W ⟨key, m⟩)
      cases hp : posN W ⟨key, m⟩ with
      | some i =>
        rw [hp] at hlook
        have hs : signN W ⟨key, m⟩ = (W, i) := by unfold signN; rw [hp]
        rw [hs] at c1 HS2 HB2 Hput Htk
        simp only at c1 HS2 HB2 Hput Htk
        have Hp2 := Lib.hid hp
        clear hs hp
        go_wp2_with (rw [c1]; simp only [Result.andThen_ok])
        have x1 := Hxm.out
        clear c1 hlook
        refine wp_region_held_drew (S := fun w' => w'.cell? ⟨bm, om + k, none⟩ = some (.int .u64 (m : Int)) ∧ SigAt w' g i) (by kernel_rfl) ⟨x1, HS2.out⟩ (fun hHeld => ?_)
        refine takeH 0 (some 102) (v := ?_) rfl (by kernel_rfl) (by kernel_rfl) (by kernel_rfl) (by kernel_rfl) (fun _ _ _ h => h) (Or.inl ⟨by kernel_rfl, ?hy⟩) (by assumption) ?_
        case hy =>
          intro w' hSw
          try dsimp only at hSw
          first
            | (go_simp; done)
            | (go_simp; with_reducible rfl)
        simp only [Act.put, List.setIfInBounds_toArray, List.set_cons_zero, List.set_cons_succ]
        refine takeH 1 (some 103) (v := ?_) rfl (by kernel_rfl) (by kernel_rfl) (by kernel_rfl) (by kernel_rfl) (fun _ _ _ h => h) (Or.inl ⟨by kernel_rfl, ?hy⟩) (by assumption) ?_
        case hy =>
          intro w' hSw
          try dsimp only at hSw
          first
            | (go_simp; done)
            | (go_simp; with_reducible rfl)
        simp only [Act.put, List.setIfInBounds_toArray, List.set_cons_zero, List.set_cons_succ]
        refine takeH 2 (some 104) (v := ?_) rfl (by kernel_rfl) (by kernel_rfl) (by kernel_rfl) (by kernel_rfl) (fun _ _ _ h => h) (Or.inl ⟨by kernel_rfl, ?hy⟩) (by assumption) ?_
        case hy =>
          intro w' hSw
          try dsimp only at hSw
          first
            | (go_simp; done)
            | (go_simp; with_reducible rfl)
        simp only [Act.put, List.setIfInBounds_toArray, List.set_cons_zero, List.set_cons_succ]
        refine takeH 3 (some 105) (v := ?_) rfl (by kernel_rfl) (by kernel_rfl) (by kernel_rfl) (by kernel_rfl) (fun _ _ _ h => h) (Or.inl ⟨by kernel_rfl, ?hy⟩) (by assumption) ?_
        case hy =>
          intro w' hSw
          try dsimp only at hSw
          first
            | (go_simp; done)
            | (go_simp; with_reducible rfl)
        simp only [Act.put, List.setIfInBounds_toArray, List.set_cons_zero, List.set_cons_succ]
        refine takeH 4 (some 106) (v := ?_) rfl (by kernel_rfl) (by kernel_rfl) (by kernel_rfl) (by kernel_rfl) (fun _ _ _ h => h) (Or.inl ⟨by kernel_rfl, ?hy⟩) (by assumption) ?_
        case hy =>
          intro w' hSw
          try dsimp only at hSw
          first
            | (go_simp; done)
            | (go_simp; with_reducible rfl)
        simp only [Act.put, List.setIfInBounds_toArray, List.set_cons_zero, List.set_cons_succ]
        refine takeH 5 (some 107) (v := ?_) rfl (by kernel_rfl) (by kernel_rfl) (by kernel_rfl) (by kernel_rfl) (fun _ _ _ h => h) (Or.inl ⟨by kernel_rfl, ?hy⟩) (by assumption) ?_
        case hy =>
          intro w' hSw
          try dsimp only at hSw
          first
            | (go_simp; done)
            | (go_simp; with_reducible rfl)
        simp only [Act.put, List.setIfInBounds_toArray, List.set_cons_zero, List.set_cons_succ]
        refine takeH 6 (some 108) (v := .string (strNo (sigL i))) rfl (by kernel_rfl) (by kernel_rfl) (by kernel_rfl) (by kernel_rfl) (fun _ _ _ h => h) (Or.inl ⟨by kernel_rfl, ?hy⟩) (by assumption) ?_
        case hy =>
          intro w' hSw
          try dsimp only at hSw
          have hcv := conv_sig hSw.2 2
          go_simp
        simp only [Act.put, List.setIfInBounds_toArray, List.set_cons_zero, List.set_cons_succ]
        obtain ⟨v3, hrun, hse3, hg3⟩ := Hput.out v2.drew (HSe2.out.same rfl)
        have hne : g ≠ bl + 1 := by
          rintro rfl
          obtain ⟨es, cl, hm1, _⟩ := HSe2.out
          rw [show v2.heap[bl + 1]? = _ from HS2.out] at hm1
          simp at hm1
        have HS3 : Hid (SigAt v3 g i) := block_grown (w := v2.drew) HS2.out hg3 (by intro e; injection e with e; exact hne e)
        have HL3 := Lib.hid (block_grown (w := v2.drew) HL2.out hg3 (by simp))
        have HB3 := Lib.hid (BookAt.grown (w := v2.drew) (HB2.out.below (Below.refl _ _).drew) (HSe2.out.same rfl) hg3 (by omega) (by omega))
        have hsb := Hb2.out.size
        have HK3 := Lib.hid (Hb2.out.drew.grown hg3 hsb (fun q hq => by injection hq with hq; omega))
        have x2 : v3.cell? ⟨bm, om + k, none⟩ = some (.int .u64 (m : Int)) := (World.cell?_of_block (hg3.block bm (by show bm < v2.heap.size; omega) (by simp; omega))).trans x1
        have HE3 := Lib.hid hse3
        clear hse3 hg3 hsb
        refine wpAnyH_ready (rs := [7]) (by kernel_rfl) (by simp) ?_
        refine AllReadyH.cons rfl (fun K hK => ?_) AllReadyH.nil
        rw [if_pos (by kernel_rfl)]
        refine wp_put v2.drew v3 _ _ _ 46 (by rfl) _ _ _ (by rfl) (by rfl) (by rfl) hrun ?_
        clear hrun
        refine hK.out _ _ ⟨x2, HS3.out⟩ (fun _ => ?_)
        clear hK K x1 x2
        refine wpAnyH_done (by kernel_rfl) ?_ _
        go_wp2
        go_roundw
        case rel => exact ⟨k + 1, hlt, by go_num, by rw [Htk.out]; exact HB3, by rw [Htk.out]; exact HE3, HL3, HK3⟩
        case measure => simp [Lib.intOf]; omega
      | none =>
        rw [hp] at hlook
        have hs : signN W ⟨key, m⟩ = (W ++ [⟨key, m⟩], W.length) := by unfold signN; rw [hp]
        rw [hs] at c1 HS2 HB2 Hput Htk
        simp only at c1 HS2 HB2 Hput Htk
        have Hp2 := Lib.hid hp
        clear hs hp
        go_wp2_with (rw [c1]; simp only [Result.andThen_ok])
        have x1 := Hxm.out
        clear c1 hlook
        refine wp_region_held_drew (S := fun w' => w'.cell? ⟨bm, om + k, none⟩ = some (.int .u64 (m : Int)) ∧ SigAt w' g W.length) (by kernel_rfl) ⟨x1, HS2.out⟩ (fun hHeld => ?_)
        refine takeH 0 (some 102) (v := ?_) rfl (by kernel_rfl) (by kernel_rfl) (by kernel_rfl) (by kernel_rfl) (fun _ _ _ h => h) (Or.inl ⟨by kernel_rfl, ?hy⟩) (by assumption) ?_
        case hy =>
          intro w' hSw
          try dsimp only at hSw
          first
            | (go_simp; done)
            | (go_simp; with_reducible rfl)
        simp only [Act.put, List.setIfInBounds_toArray, List.set_cons_zero, List.set_cons_succ]
        refine takeH 1 (some 103) (v := ?_) rfl (by kernel_rfl) (by kernel_rfl) (by kernel_rfl) (by kernel_rfl) (fun _ _ _ h => h) (Or.inl ⟨by kernel_rfl, ?hy⟩) (by assumption) ?_
        case hy =>
          intro w' hSw
          try dsimp only at hSw
          first
            | (go_simp; done)
            | (go_simp; with_reducible rfl)
        simp only [Act.put, List.setIfInBounds_toArray, List.set_cons_zero, List.set_cons_succ]
        refine takeH 2 (some 104) (v := ?_) rfl (by kernel_rfl) (by kernel_rfl) (by kernel_rfl) (by kernel_rfl) (fun _ _ _ h => h) (Or.inl ⟨by kernel_rfl, ?hy⟩) (by assumption) ?_
        case hy =>
          intro w' hSw
          try dsimp only at hSw
          first
            | (go_simp; done)
            | (go_simp; with_reducible rfl)
        simp only [Act.put, List.setIfInBounds_toArray, List.set_cons_zero, List.set_cons_succ]
        refine takeH 3 (some 105) (v := ?_) rfl (by kernel_rfl) (by kernel_rfl) (by kernel_rfl) (by kernel_rfl) (fun _ _ _ h => h) (Or.inl ⟨by kernel_rfl, ?hy⟩) (by assumption) ?_
        case hy =>
          intro w' hSw
          try dsimp only at hSw
          first
            | (go_simp; done)
            | (go_simp; with_reducible rfl)
        simp only [Act.put, List.setIfInBounds_toArray, List.set_cons_zero, List.set_cons_succ]
        refine takeH 4 (some 106) (v := ?_) rfl (by kernel_rfl) (by kernel_rfl) (by kernel_rfl) (by kernel_rfl) (fun _ _ _ h => h) (Or.inl ⟨by kernel_rfl, ?hy⟩) (by assumption) ?_
        case hy =>
          intro w' hSw
          try dsimp only at hSw
          first
            | (go_simp; done)
            | (go_simp; with_reducible rfl)
        simp only [Act.put, List.setIfInBounds_toArray, List.set_cons_zero, List.set_cons_succ]
        refine takeH 5 (some 107) (v := ?_) rfl (by kernel_rfl) (by kernel_rfl) (by kernel_rfl) (by kernel_rfl) (fun _ _ _ h => h) (Or.inl ⟨by kernel_rfl, ?hy⟩) (by assumption) ?_
        case hy =>
          intro w' hSw
          try dsimp only at hSw
          first
            | (go_simp; done)
            | (go_simp; with_reducible rfl)
        simp only [Act.put, List.setIfInBounds_toArray, List.set_cons_zero, List.set_cons_succ]
        refine takeH 6 (some 108) (v := .string (strNo (sigL W.length))) rfl (by kernel_rfl) (by kernel_rfl) (by kernel_rfl) (by kernel_rfl) (fun _ _ _ h => h) (Or.inl ⟨by kernel_rfl, ?hy⟩) (by assumption) ?_
        case hy =>
          intro w' hSw
          try dsimp only at hSw
          have hcv := conv_sig hSw.2 2
          go_simp
        simp only [Act.put, List.setIfInBounds_toArray, List.set_cons_zero, List.set_cons_succ]
        obtain ⟨v3, hrun, hse3, hg3⟩ := Hput.out v2.drew (HSe2.out.same rfl)
        have hne : g ≠ bl + 1 := by
          rintro rfl
          obtain ⟨es, cl, hm1, _⟩ := HSe2.out
          rw [show v2.heap[bl + 1]? = _ from HS2.out] at hm1
          simp at hm1
        have HS3 : Hid (SigAt v3 g W.length) := block_grown (w := v2.drew) HS2.out hg3 (by intro e; injection e with e; exact hne e)
        have HL3 := Lib.hid (block_grown (w := v2.drew) HL2.out hg3 (by simp))
        have HB3 := Lib.hid (BookAt.grown (w := v2.drew) (HB2.out.below (Below.refl _ _).drew) (HSe2.out.same rfl) hg3 (by omega) (by omega))
        have hsb := Hb2.out.size
        have HK3 := Lib.hid (Hb2.out.drew.grown hg3 hsb (fun q hq => by injection hq with hq; omega))
        have x2 : v3.cell? ⟨bm, om + k, none⟩ = some (.int .u64 (m : Int)) := (World.cell?_of_block (hg3.block bm (by show bm < v2.heap.size; omega) (by simp; omega))).trans x1
        have HE3 := Lib.hid hse3
        clear hse3 hg3 hsb
        refine wpAnyH_ready (rs := [7]) (by kernel_rfl) (by simp) ?_
        refine AllReadyH.cons rfl (fun K hK => ?_) AllReadyH.nil
        rw [if_pos (by kernel_rfl)]
        refine wp_put v2.drew v3 _ _ _ 46 (by rfl) _ _ _ (by rfl) (by rfl) (by rfl) hrun ?_
        clear hrun
        refine hK.out _ _ ⟨x2, HS3.out⟩ (fun _ => ?_)
        clear hK K x1 x2
        refine wpAnyH_done (by kernel_rfl) ?_ _
        go_wp2
        go_roundw
        case rel => exact ⟨k + 1, hlt, by go_num, by rw [Htk.out]; exact HB3, by rw [Htk.out]; exact HE3, HL3, HK3⟩
        case measure => simp [Lib.intOf]; omega
    · have hkn : k = nm := by omega
      subst hkn
      have hd2 : decide ((k : Int) < (k : Int)) = false := by simp
      clear hlt
      have ht : (ms.map (Nu.mk key)).take k = ms.map (Nu.mk key) := List.take_of_length_le (by have := Hll.out; omega)
      rw [ht] at HB HSe Hall Hln
      generalize bookN (ms.map (Nu.mk key)) = W at *
      have Hok : Hid (∀ x ∈ W, x.ok) := fun x hx => by
        obtain ⟨h1, h2⟩ := Hall.out x hx
        exact ⟨by rw [h1]; exact hkey, h2⟩
      go_wp2_with fail
      refine (digest_any key wr hkey).mono ?_
      rintro r9 v1 ⟨rfl, hq⟩
      have HB1 := Lib.hid (HB.out.below hq); have HSe1 := Lib.hid (HSe.out.below hq); have Hb1 := Lib.hid (Hb.out.trans (hq.mono Hb.out.size))
      clear hq HB HSe HL Hb
      go_wp2_with fail
      refine (signed_any _ _ _ _ (D8.of key) v1 HB1.out (by rw [List.length_map]; have := Hln.out; omega)).mono ?_
      rintro r9 v2 ⟨A1, n1, c1, rfl, ho, hq⟩
      rw [signed_en Hok.out hkey] at ho
      have hl1 := (Rd.of_own ho).dlenD
      rw [List.length_map, signedN_all (fun x hx => (Hall.out x hx).1)] at hl1
      have HSe2 := Lib.hid (HSe1.out.below hq); have Hb2 := Lib.hid (Hb1.out.trans (hq.mono Hb1.out.size))
      obtain ⟨es, cl, hmm2, hes⟩ := HSe2.out
      have hsz : es.size = n1 := by
        have := congrArg List.length hes
        rw [List.length_map] at this
        have h3 : (seenL W).length = W.length := by unfold seenL; simp
        rw [h3, hl1] at this
        simpa using this
      have hlen : ∀ ty, (Builtin.len_ #[46] ty #[.map (some (bl + 1))]).run Try.prog v2 = .ok (.int .i64 (n1 : Int)) v2 := fun ty => by
        simp [Builtin.len_, run_underlying Try.underlying46, MapKept.run_getObj_map hmm2, Result.andThen, goInt, hsz]
      have heqn : ((n1 : Int) == (n1 : Int)) = true := by simp
      clear hq ho HB1 HSe1 Hb1 hes
      go_wp2_with (go_at_call 10; refine (told_any v2).mono ?_; rintro r9 v9 ⟨rfl, hb9⟩; have Hv9 := Lib.hid (Hb2.out.trans (hb9.mono Hb2.out.size)); clear hb9)
      go_ret
      exact ⟨rfl, Hv9.out⟩
end Go.Proofs.Ytepdinfopcohiaa
