/- The walk of the reference's Bytes of a transaction. Conditions: bounds on how many bytes. -/
import Derived.Test.YtebepgoaofhelaaTxE
import Derived.Deep.RegionHeld3
namespace Go.Proofs.Ytebepgoaofhelaa
open Go.RowKit Go.Lib

theorem step_append_rd {P : Program} {ops : Array Oper} {o : Oper} {a : Act} {K : Act → World → Prop} {Q : Exit → Act → World → Prop} {E : Prop} (w : World) (hgd : o.guard = none) (s x : Operand) (t : TypeId)
    (ho : o.op = .call { callee := .builtin .append, args := #[s, x], argTypes := #[t, t] })
    (base : Nat) (e : TypeId) (i : TypeInfo) (z : Value) (sz bytes : Nat) (ht : P.underlying t = some (.slice e)) (hinfo : P.info? e = some i ∧ i.zero = some z ∧ i.size = sz ∧ i.bytes = bytes)
    (hzs : z.cells.size = sz) (hsz : 0 < sz) (v : Value) (n : Nat) (xs : List Value) (hs : a.eval s = v) (hown : w.ownsRow base e sz v n xs)
    (B : Nat) (A : Option Addr) (m c : Nat) (news : List Value) (hx : a.eval x = .slice A m c) (hr : Rd w B sz A m news) (h1 : ∀ u ∈ news, u.oneCell' = true)
    (h63 : n + m ≤ 281474976710656) (hbytes : (n + m) * bytes ≤ 140737488355328) (hbase : base ≤ w.heap.size)
    (h : ∀ v' w', w'.ownsRow base e sz v' (n + m) (xs ++ news) → Below base w w' → K (a.put o.dst v') w') : if Region.wanted o (yielded ops a.tmps) = true then Oper.wp P o a w K Q else E := by
  have hw : Region.wanted o (yielded ops a.tmps) = true := by simp [Region.wanted, hgd]
  rw [if_pos hw]
  cases A with
  | none =>
    have hm : m = 0 := by
      rcases Nat.eq_zero_or_pos m with h0 | h0
      · exact h0
      · obtain ⟨_, _, h2, _⟩ := hr.2 h0
        cases h2
    subst hm
    have hn : news = [] := List.eq_nil_of_length_eq_zero (by simpa using hr.1)
    subst hn
    have hrun := run_app_nil (P := P) w base t o.type e i sz ht hinfo.1 v n xs hown c
    unfold Oper.wp
    simp [execOp, ho, resolve, invoke, builtin, hs, hx, hrun, Result.andThen]
    exact h v w (by simpa using hown) (Below.refl _ _)
  | some ad =>
    refine wp_append_own w s x t ho base e i z sz bytes ht hinfo.1 hinfo.2.1 hinfo.2.2.1 hinfo.2.2.2 hzs hsz v n xs hs hown ad m c news hx hr.1 ?_ h1 (by simp only [maxLen]; omega) hbytes hbase ?_
    · intro j u hu
      have hm : 0 < m := by
        rcases Nat.eq_zero_or_pos m with h0 | h0
        · subst h0
          have hn : news = [] := List.eq_nil_of_length_eq_zero (by simpa using hr.1)
          subst hn; simp at hu
        · exact h0
      obtain ⟨b, o', e1, _, hc⟩ := hr.2 hm
      obtain rfl : ad = ⟨b, o', none⟩ := by injection e1
      have := hc j u hu
      unfold Addr.add
      split
      · subst_vars; simpa using this
      · exact this
    · intro v' w' hown' hg _
      exact h v' w' hown' ((Below.refl _ _).grown hg hbase (fun k hk => (hown.lt k hk).1))
/-- A reference's transaction in a block. -/
def BoxR (t : TxV) (w : World) (b : Nat) : Prop := w.heap[b]? = some (.cells #[.int .u8 (t.d.x0 : Int), .int .u8 (t.d.x1 : Int), .int .u8 (t.d.x2 : Int), .int .u8 (t.d.x3 : Int), .int .u8 (t.d.x4 : Int), .int .u8 (t.d.x5 : Int), .int .u8 (t.d.x6 : Int), .int .u8 (t.d.x7 : Int), .int .i64 t.no, .int .i64 t.fe, .int .i64 t.ki, .slice t.A t.n t.c, .slice t.A' t.n' t.c'] 34 (0, 0))
theorem BoxR.all {t : TxV} {w : World} {b : Nat} (h : BoxR t w b) : w.cell? ⟨b, 0, none⟩ = some (.int .u8 (t.d.x0 : Int)) ∧ w.cell? ⟨b, 1, none⟩ = some (.int .u8 (t.d.x1 : Int)) ∧ w.cell? ⟨b, 2, none⟩ = some (.int .u8 (t.d.x2 : Int)) ∧ w.cell? ⟨b, 3, none⟩ = some (.int .u8 (t.d.x3 : Int)) ∧ w.cell? ⟨b, 4, none⟩ = some (.int .u8 (t.d.x4 : Int)) ∧ w.cell? ⟨b, 5, none⟩ = some (.int .u8 (t.d.x5 : Int)) ∧ w.cell? ⟨b, 6, none⟩ = some (.int .u8 (t.d.x6 : Int)) ∧ w.cell? ⟨b, 7, none⟩ = some (.int .u8 (t.d.x7 : Int)) ∧ w.cell? ⟨b, 8, none⟩ = some (.int .i64 t.no) ∧ w.cell? ⟨b, 9, none⟩ = some (.int .i64 t.fe) ∧ w.cell? ⟨b, 10, none⟩ = some (.int .i64 t.ki) ∧ w.cell? ⟨b, 11, none⟩ = some (.slice t.A t.n t.c) ∧ w.cell? ⟨b, 12, none⟩ = some (.slice t.A' t.n' t.c') :=
  ⟨block_cell h 0, block_cell h 1, block_cell h 2, block_cell h 3, block_cell h 4, block_cell h 5, block_cell h 6, block_cell h 7, block_cell h 8, block_cell h 9, block_cell h 10, block_cell h 11, block_cell h 12⟩
theorem BoxR.under {t : TxV} {w w' : World} {b B : Nat} (h : BoxR t w b) (hb : Below B w w') (hB : b < B) : BoxR t w' b := block_below h hb hB
theorem BoxR.drew {t : TxV} {w : World} {b : Nat} (h : BoxR t w b) : BoxR t w.drew b := h
set_option maxRecDepth 100000 in
set_option maxHeartbeats 4000000 in
theorem rhead_any (t : TxV) (w : World) (h : t.At w) : Calls Try.prog 50 #[.agg #[.int .u8 (t.d.x0 : Int), .int .u8 (t.d.x1 : Int), .int .u8 (t.d.x2 : Int), .int .u8 (t.d.x3 : Int), .int .u8 (t.d.x4 : Int), .int .u8 (t.d.x5 : Int), .int .u8 (t.d.x6 : Int), .int .u8 (t.d.x7 : Int), .int .i64 t.no, .int .i64 t.fe, .int .i64 t.ki, .slice t.A t.n t.c, .slice t.A' t.n' t.c']] w (GivesB w (headT t.d t.no t.fe t.ki t.bo)) := by
  obtain ⟨i0, hi, hz0, hz1, hz2⟩ := info_parts info_u8
  have HI := Lib.hid (And.intro hi (And.intro hz0 (And.intro hz1 hz2))); clear hi hz0 hz1 hz2
  have HB0 := Lib.hid (show BoxR t (w.alloc (.cells #[.int .u8 (t.d.x0 : Int), .int .u8 (t.d.x1 : Int), .int .u8 (t.d.x2 : Int), .int .u8 (t.d.x3 : Int), .int .u8 (t.d.x4 : Int), .int .u8 (t.d.x5 : Int), .int .u8 (t.d.x6 : Int), .int .u8 (t.d.x7 : Int), .int .i64 t.no, .int .i64 t.fe, .int .i64 t.ki, .slice t.A t.n t.c, .slice t.A' t.n' t.c'] 34)) w.heap.size from heap_alloc_new w _)
  have Hw0 := Lib.hid (below_one w (.cells #[.int .u8 (t.d.x0 : Int), .int .u8 (t.d.x1 : Int), .int .u8 (t.d.x2 : Int), .int .u8 (t.d.x3 : Int), .int .u8 (t.d.x4 : Int), .int .u8 (t.d.x5 : Int), .int .u8 (t.d.x6 : Int), .int .u8 (t.d.x7 : Int), .int .i64 t.no, .int .i64 t.fe, .int .i64 t.ki, .slice t.A t.n t.c, .slice t.A' t.n' t.c'] 34))
  have Hd := Lib.hid h.ok
  have Hm := Lib.hid h.m1
  have h0 := Rd.blen h.r1
  have Hl := Lib.hid h0
  have Hr := Lib.hid h.r1
  clear h h0
  have l1 := encN_len (u64N t.ki); have l2 := encN_len t.d.num; have l3 := encN_len (u64N t.no); have l4 := encN_len (u64N t.fe)
  have hz0 : (w.alloc (.cells #[.int .u8 (t.d.x0 : Int), .int .u8 (t.d.x1 : Int), .int .u8 (t.d.x2 : Int), .int .u8 (t.d.x3 : Int), .int .u8 (t.d.x4 : Int), .int .u8 (t.d.x5 : Int), .int .u8 (t.d.x6 : Int), .int .u8 (t.d.x7 : Int), .int .i64 t.no, .int .i64 t.fe, .int .i64 t.ki, .slice t.A t.n t.c, .slice t.A' t.n' t.c'] 34)).heap.size = w.heap.size + 1 := by simp
  have Hz0 := Lib.hid hz0
  clear hz0
  go_enter Try.func50, Try.ntmps50
  go_wp2
  generalize w.alloc (.cells #[.int .u8 (t.d.x0 : Int), .int .u8 (t.d.x1 : Int), .int .u8 (t.d.x2 : Int), .int .u8 (t.d.x3 : Int), .int .u8 (t.d.x4 : Int), .int .u8 (t.d.x5 : Int), .int .u8 (t.d.x6 : Int), .int .u8 (t.d.x7 : Int), .int .i64 t.no, .int .i64 t.fe, .int .i64 t.ki, .slice t.A t.n t.c, .slice t.A' t.n' t.c'] 34) = w0 at *
  go_region_held3 (fun w' => w'.cell? ⟨w.heap.size, 0, none⟩ = some (.int .u8 (t.d.x0 : Int)) ∧ w'.cell? ⟨w.heap.size, 1, none⟩ = some (.int .u8 (t.d.x1 : Int)) ∧ w'.cell? ⟨w.heap.size, 2, none⟩ = some (.int .u8 (t.d.x2 : Int)) ∧ w'.cell? ⟨w.heap.size, 3, none⟩ = some (.int .u8 (t.d.x3 : Int)) ∧ w'.cell? ⟨w.heap.size, 4, none⟩ = some (.int .u8 (t.d.x4 : Int)) ∧ w'.cell? ⟨w.heap.size, 5, none⟩ = some (.int .u8 (t.d.x5 : Int)) ∧ w'.cell? ⟨w.heap.size, 6, none⟩ = some (.int .u8 (t.d.x6 : Int)) ∧ w'.cell? ⟨w.heap.size, 7, none⟩ = some (.int .u8 (t.d.x7 : Int)) ∧ w'.cell? ⟨w.heap.size, 8, none⟩ = some (.int .i64 t.no) ∧ w'.cell? ⟨w.heap.size, 9, none⟩ = some (.int .i64 t.fe) ∧ w'.cell? ⟨w.heap.size, 10, none⟩ = some (.int .i64 t.ki) ∧ w'.cell? ⟨w.heap.size, 11, none⟩ = some (.slice t.A t.n t.c) ∧ w'.cell? ⟨w.heap.size, 12, none⟩ = some (.slice t.A' t.n' t.c')) (first | exact HB0.out.all | exact HB1.out.all | exact HB2.out.all | exact HB3.out.all | exact HB4.out.all | go_keep)
    (first
      | (have _g := HB2; clear _g; go_at_call 41; refine (numr_at (t.d.num : Int) _ (by omega) (by have := D8.num_lt Hd.out; omega)).mono ?_; rintro e w3 ⟨A3, n3, c3, rfl, ho3, hn3, hb3⟩; have HB3 := Lib.hid (HB2.out.under hb3 (by have := Hz2.out; omega)); have Hw3 := Lib.hid (Hw2.out.trans (hb3.mono Hw2.out.size)); have Ho3 := Lib.hid (own_below Ho2.out hb3); have Hz3 := Lib.hid (Nat.le_trans Hz2.out hb3.size); have Hr3 := Lib.hid (Rd.of_own ho3); have Hn3 := Lib.hid hn3; have hl3 : n3 ≤ 11 := (by rw [hn3]; exact encN_len _); clear ho3 hn3 hb3)
      | (go_at_call 41; refine (numr_at (IntKind.u64.wrap t.ki) _ (wrapU _).1 (wrapU _).2).mono ?_; rintro e w1 ⟨A1, n1, c1, rfl, ho1, hn1, hb1⟩; have HB1 := Lib.hid (HB0.out.drew.under hb1 (by rw [World.size_drew, Hz0.out]; omega)); have Hw1 := Lib.hid (Hw0.out.drew.trans (hb1.mono Hw0.out.size)); have Ho1 := Lib.hid (own_down ho1 (show w.heap.size + 1 ≤ _ by rw [World.size_drew, Hz0.out]; exact Nat.le_refl _)); have Hn1 := Lib.hid hn1; have hl1 : n1 ≤ 11 := (by rw [hn1]; exact encN_len _); have Hz1 := Lib.hid (show w.heap.size + 1 ≤ w1.heap.size by have := hb1.size; rw [World.size_drew, Hz0.out] at this; exact this); clear ho1 hn1 hb1)
      | (go_at_call 42; refine (rnum_any t.d _ Hd.out).mono ?_; rintro e w2 ⟨rfl, hb2⟩; have HB2 := Lib.hid (HB1.out.under hb2 (by have := Hz1.out; omega)); have Hw2 := Lib.hid (Hw1.out.trans (hb2.mono Hw1.out.size)); have Ho2 := Lib.hid (own_below Ho1.out hb2); have Hz2 := Lib.hid (Nat.le_trans Hz1.out hb2.size); clear hb2)
      | (refine step_append_rd w3 (by rfl) _ _ 24 (by rfl) (w.heap.size + 1) 5 i0 (.int .u8 0) 1 1 Try.underlying24 HI.out rfl (by decide) _ _ _ (by rfl) Ho3.out w3.heap.size A3 n3 c3 _ (by rfl) Hr3.out (bv_one _) (by omega) (by omega) Hz3.out ?_; intro v4 w4 ho4 hb4; obtain ⟨A4, c4, rfl⟩ := own_form ho4; have HB4 := Lib.hid (HB3.out.under hb4 (by omega)); have Hw4 := Lib.hid (Hw3.out.trans (hb4.mono (by omega))); have Ho4 := Lib.hid ho4; have Hz4 := Lib.hid (Nat.le_trans Hz3.out hb4.size); clear ho4 hb4))
  all_goals
    have hl4 : n1 + n3 ≤ 22 := by omega
    go_wp2
    go_region_held3 (fun w' => w'.cell? ⟨w.heap.size, 0, none⟩ = some (.int .u8 (t.d.x0 : Int)) ∧ w'.cell? ⟨w.heap.size, 1, none⟩ = some (.int .u8 (t.d.x1 : Int)) ∧ w'.cell? ⟨w.heap.size, 2, none⟩ = some (.int .u8 (t.d.x2 : Int)) ∧ w'.cell? ⟨w.heap.size, 3, none⟩ = some (.int .u8 (t.d.x3 : Int)) ∧ w'.cell? ⟨w.heap.size, 4, none⟩ = some (.int .u8 (t.d.x4 : Int)) ∧ w'.cell? ⟨w.heap.size, 5, none⟩ = some (.int .u8 (t.d.x5 : Int)) ∧ w'.cell? ⟨w.heap.size, 6, none⟩ = some (.int .u8 (t.d.x6 : Int)) ∧ w'.cell? ⟨w.heap.size, 7, none⟩ = some (.int .u8 (t.d.x7 : Int)) ∧ w'.cell? ⟨w.heap.size, 8, none⟩ = some (.int .i64 t.no) ∧ w'.cell? ⟨w.heap.size, 9, none⟩ = some (.int .i64 t.fe) ∧ w'.cell? ⟨w.heap.size, 10, none⟩ = some (.int .i64 t.ki) ∧ w'.cell? ⟨w.heap.size, 11, none⟩ = some (.slice t.A t.n t.c) ∧ w'.cell? ⟨w.heap.size, 12, none⟩ = some (.slice t.A' t.n' t.c')) (first | exact HB4.out.all | exact HB5.out.all | exact HB6.out.all | exact HB7.out.all | exact HB8.out.all | go_keep)
      (first
        | (have _g := HB6; clear _g; go_at_call 41; refine (numr_at (IntKind.u64.wrap t.fe) _ (wrapU _).1 (wrapU _).2).mono ?_; rintro e w7 ⟨A7, n7, c7, rfl, ho7, hn7, hb7⟩; have HB7 := Lib.hid (HB6.out.under hb7 (by have := Hz6.out; omega)); have Hw7 := Lib.hid (Hw6.out.trans (hb7.mono Hw6.out.size)); have Ho7 := Lib.hid (own_below Ho6.out hb7); have Hz7 := Lib.hid (Nat.le_trans Hz6.out hb7.size); have Hr7 := Lib.hid (Rd.of_own ho7); have Hn7 := Lib.hid hn7; have hl7 : n7 ≤ 11 := (by rw [hn7]; exact encN_len _); clear ho7 hn7 hb7)
        | (go_at_call 41; refine (numr_at (IntKind.u64.wrap t.no) _ (wrapU _).1 (wrapU _).2).mono ?_; rintro e w5 ⟨A5, n5, c5, rfl, ho5, hn5, hb5⟩; have HB5 := Lib.hid (HB4.out.drew.under hb5 (by rw [World.size_drew]; have := Hz4.out; omega)); have Hw5 := Lib.hid (Hw4.out.drew.trans (hb5.mono Hw4.out.size)); have Ho5 := Lib.hid (own_below (w := w4.drew) Ho4.out.drew hb5); have Hz5 := Lib.hid (Nat.le_trans Hz4.out hb5.size); have Hr5 := Lib.hid (Rd.of_own ho5); have Hn5 := Lib.hid hn5; have hl5 : n5 ≤ 11 := (by rw [hn5]; exact encN_len _); clear ho5 hn5 hb5)
        | (refine step_append_rd w5 (by rfl) _ _ 24 (by rfl) (w.heap.size + 1) 5 i0 (.int .u8 0) 1 1 Try.underlying24 HI.out rfl (by decide) _ _ _ (by rfl) Ho5.out w5.heap.size A5 n5 c5 _ (by rfl) Hr5.out (bv_one _) (by omega) (by omega) Hz5.out ?_; intro v6 w6 ho6 hb6; obtain ⟨A6, c6, rfl⟩ := own_form ho6; have HB6 := Lib.hid (HB5.out.under hb6 (by omega)); have Hw6 := Lib.hid (Hw5.out.trans (hb6.mono (by omega))); have Ho6 := Lib.hid ho6; have Hz6 := Lib.hid (Nat.le_trans Hz5.out hb6.size); clear ho6 hb6)
        | (refine step_append_rd w7 (by rfl) _ _ 24 (by rfl) (w.heap.size + 1) 5 i0 (.int .u8 0) 1 1 Try.underlying24 HI.out rfl (by decide) _ _ _ (by rfl) Ho7.out w7.heap.size A7 n7 c7 _ (by rfl) Hr7.out (bv_one _) (by omega) (by omega) Hz7.out ?_; intro v8 w8 ho8 hb8; obtain ⟨A8, c8, rfl⟩ := own_form ho8; have HB8 := Lib.hid (HB7.out.under hb8 (by omega)); have Hw8 := Lib.hid (Hw7.out.trans (hb8.mono (by omega))); have Ho8 := Lib.hid ho8; have Hz8 := Lib.hid (Nat.le_trans Hz7.out hb8.size); clear ho8 hb8))
    all_goals
      have hl8 : n1 + n3 + n5 + n7 ≤ 44 := by omega
      obtain ⟨y0, y1, y2, y3, y4, y5, y6, y7, y8, y9, y10, y11, y12⟩ := HB8.out.all
      go_wp2_with fail
      refine (bytesr_any t.A t.n t.c t.bo w8 (Hr.out.up Hw8.out (Nat.le_refl _)) (by have := Hm.out; omega)).mono ?_
      rintro e w9 ⟨A9, n9, c9, rfl, ho9, hn9, hb9⟩
      have Hw9 := Lib.hid (Hw8.out.trans (hb9.mono Hw8.out.size))
      have Ho9 := Lib.hid (own_below Ho8.out hb9)
      have Hz9 := Lib.hid (Nat.le_trans Hz8.out hb9.size)
      have Hr9 := Lib.hid (Rd.of_own ho9)
      have Hn9 := Lib.hid hn9
      have hl9 : n9 ≤ 100000011 := by have := encB_len t.bo; have := Hl.out; have := Hm.out; omega
      clear ho9 hn9 hb9 y0 y1 y2 y3 y4 y5 y6 y7 y8 y9 y10 y11 y12
      go_wp2_with (at_builtin; go_must (refine wpList_append_rd w9 (by rfl) _ _ 24 (by rfl) (w.heap.size + 1) 5 i0 (.int .u8 0) 1 1 Try.underlying24 HI.out rfl (by decide) _ _ _ (by rfl) Ho9.out w9.heap.size A9 n9 c9 _ (by rfl) Hr9.out (bv_one _) (by omega) (by omega) Hz9.out ?_); intro v10 w10 hown10 hb10; have Hown10 := Lib.hid hown10; have Hb10 := Lib.hid hb10; clear hown10 hb10)
      go_ret
      obtain ⟨A10, c10, rfl⟩ := own_form Hown10.out
      refine ⟨A10, n1 + n3 + n5 + n7 + n9, c10, rfl, ?_, ?_, Hw9.out.trans (Hb10.out.mono (by omega))⟩
      · have := own_down Hown10.out (show w.heap.size ≤ w.heap.size + 1 by omega)
        unfold headT u64N
        simp only [bv_append, Int.toNat_natCast] at this ⊢
        exact this
      · unfold headT u64N
        simp only [List.length_append]
        rw [Hn1.out, Hn3.out, Hn5.out, Hn7.out, Hn9.out]; rfl
set_option maxRecDepth 100000 in
set_option maxHeartbeats 4000000 in
theorem rtbytes_any (t : TxV) (w : World) (h : t.At w) : Calls Try.prog 26 #[.agg #[.int .u8 (t.d.x0 : Int), .int .u8 (t.d.x1 : Int), .int .u8 (t.d.x2 : Int), .int .u8 (t.d.x3 : Int), .int .u8 (t.d.x4 : Int), .int .u8 (t.d.x5 : Int), .int .u8 (t.d.x6 : Int), .int .u8 (t.d.x7 : Int), .int .i64 t.no, .int .i64 t.fe, .int .i64 t.ki, .slice t.A t.n t.c, .slice t.A' t.n' t.c']] w (GivesB w (bytesT t.d t.no t.fe t.ki t.bo t.si)) := by
  obtain ⟨i0, hi, hz0, hz1, hz2⟩ := info_parts info_u8
  have HI := Lib.hid (And.intro hi (And.intro hz0 (And.intro hz1 hz2))); clear hi hz0 hz1 hz2
  have HB0 := Lib.hid (show BoxR t (w.alloc (.cells #[.int .u8 (t.d.x0 : Int), .int .u8 (t.d.x1 : Int), .int .u8 (t.d.x2 : Int), .int .u8 (t.d.x3 : Int), .int .u8 (t.d.x4 : Int), .int .u8 (t.d.x5 : Int), .int .u8 (t.d.x6 : Int), .int .u8 (t.d.x7 : Int), .int .i64 t.no, .int .i64 t.fe, .int .i64 t.ki, .slice t.A t.n t.c, .slice t.A' t.n' t.c'] 34)) w.heap.size from heap_alloc_new w _)
  have Hw0 := Lib.hid (below_one w (.cells #[.int .u8 (t.d.x0 : Int), .int .u8 (t.d.x1 : Int), .int .u8 (t.d.x2 : Int), .int .u8 (t.d.x3 : Int), .int .u8 (t.d.x4 : Int), .int .u8 (t.d.x5 : Int), .int .u8 (t.d.x6 : Int), .int .u8 (t.d.x7 : Int), .int .i64 t.no, .int .i64 t.fe, .int .i64 t.ki, .slice t.A t.n t.c, .slice t.A' t.n' t.c'] 34))
  have HA := Lib.hid (h.up Hw0.out.drew)
  have h1 := Rd.blen h.r1; have h2 := Rd.blen h.r2
  have Hl := Lib.hid h1; have Hl' := Lib.hid h2
  have Hm := Lib.hid h.m1; have Hm' := Lib.hid h.m2
  have Hr' := Lib.hid h.r2
  clear h h1 h2
  have hz0 : (w.alloc (.cells #[.int .u8 (t.d.x0 : Int), .int .u8 (t.d.x1 : Int), .int .u8 (t.d.x2 : Int), .int .u8 (t.d.x3 : Int), .int .u8 (t.d.x4 : Int), .int .u8 (t.d.x5 : Int), .int .u8 (t.d.x6 : Int), .int .u8 (t.d.x7 : Int), .int .i64 t.no, .int .i64 t.fe, .int .i64 t.ki, .slice t.A t.n t.c, .slice t.A' t.n' t.c'] 34)).heap.size = w.heap.size + 1 := by simp
  have Hz0 := Lib.hid hz0
  clear hz0
  go_enter Try.func26, Try.ntmps26
  go_wp2
  generalize w.alloc (.cells #[.int .u8 (t.d.x0 : Int), .int .u8 (t.d.x1 : Int), .int .u8 (t.d.x2 : Int), .int .u8 (t.d.x3 : Int), .int .u8 (t.d.x4 : Int), .int .u8 (t.d.x5 : Int), .int .u8 (t.d.x6 : Int), .int .u8 (t.d.x7 : Int), .int .i64 t.no, .int .i64 t.fe, .int .i64 t.ki, .slice t.A t.n t.c, .slice t.A' t.n' t.c'] 34) = w0 at *
  go_region_held3 (fun w' => w'.cell? ⟨w.heap.size, 0, none⟩ = some (.int .u8 (t.d.x0 : Int)) ∧ w'.cell? ⟨w.heap.size, 1, none⟩ = some (.int .u8 (t.d.x1 : Int)) ∧ w'.cell? ⟨w.heap.size, 2, none⟩ = some (.int .u8 (t.d.x2 : Int)) ∧ w'.cell? ⟨w.heap.size, 3, none⟩ = some (.int .u8 (t.d.x3 : Int)) ∧ w'.cell? ⟨w.heap.size, 4, none⟩ = some (.int .u8 (t.d.x4 : Int)) ∧ w'.cell? ⟨w.heap.size, 5, none⟩ = some (.int .u8 (t.d.x5 : Int)) ∧ w'.cell? ⟨w.heap.size, 6, none⟩ = some (.int .u8 (t.d.x6 : Int)) ∧ w'.cell? ⟨w.heap.size, 7, none⟩ = some (.int .u8 (t.d.x7 : Int)) ∧ w'.cell? ⟨w.heap.size, 8, none⟩ = some (.int .i64 t.no) ∧ w'.cell? ⟨w.heap.size, 9, none⟩ = some (.int .i64 t.fe) ∧ w'.cell? ⟨w.heap.size, 10, none⟩ = some (.int .i64 t.ki) ∧ w'.cell? ⟨w.heap.size, 11, none⟩ = some (.slice t.A t.n t.c) ∧ w'.cell? ⟨w.heap.size, 12, none⟩ = some (.slice t.A' t.n' t.c')) (first | exact HB0.out.all | exact HB1.out.all | exact HB2.out.all | exact HB3.out.all | go_keep)
    (first
      | (go_at_call 50; refine (rhead_any t _ HA.out).mono ?_; rintro e w1 ⟨A1, n1, c1, rfl, ho1, hn1, hb1⟩; have HB1 := Lib.hid (HB0.out.drew.under hb1 (by rw [World.size_drew, Hz0.out]; omega)); have Hw1 := Lib.hid (Hw0.out.drew.trans (hb1.mono Hw0.out.size)); have Ho1 := Lib.hid (own_down ho1 (show w.heap.size + 1 ≤ _ by rw [World.size_drew, Hz0.out]; exact Nat.le_refl _)); have Hn1 := Lib.hid hn1; have hl1 : n1 ≤ 100000055 := (by have := headT_len t.d t.no t.fe t.ki t.bo; have := Hl.out; have := Hm.out; omega); have Hz1 := Lib.hid (show w.heap.size + 1 ≤ w1.heap.size by have := hb1.size; rw [World.size_drew, Hz0.out] at this; exact this); clear ho1 hn1 hb1)
      | (go_at_call 51; refine (bytesr_any t.A' t.n' t.c' t.si _ (Hr'.out.up Hw1.out (Nat.le_refl _)) (by have := Hm'.out; omega)).mono ?_; rintro e w2 ⟨A2, n2, c2, rfl, ho2, hn2, hb2⟩; have HB2 := Lib.hid (HB1.out.under hb2 (by have := Hz1.out; omega)); have Hw2 := Lib.hid (Hw1.out.trans (hb2.mono Hw1.out.size)); have Ho2 := Lib.hid (own_below Ho1.out hb2); have Hz2 := Lib.hid (Nat.le_trans Hz1.out hb2.size); have Hr2 := Lib.hid (Rd.of_own ho2); have Hn2 := Lib.hid hn2; have hl2 : n2 ≤ 100000011 := (by have := encB_len t.si; have := Hl'.out; have := Hm'.out; omega); clear ho2 hn2 hb2)
      | (refine step_append_rd w2 (by rfl) _ _ 24 (by rfl) (w.heap.size + 1) 5 i0 (.int .u8 0) 1 1 Try.underlying24 HI.out rfl (by decide) _ _ _ (by rfl) Ho2.out w2.heap.size A2 n2 c2 _ (by rfl) Hr2.out (bv_one _) (by omega) (by omega) Hz2.out ?_; intro v3 w3 ho3 hb3; obtain ⟨A3, c3, rfl⟩ := own_form ho3; have HB3 := Lib.hid (HB2.out.under hb3 (by omega)); have Hw3 := Lib.hid (Hw2.out.trans (hb3.mono (by omega))); have Ho3 := Lib.hid ho3; clear ho3 hb3))
  all_goals
    go_wp2
    go_ret
    refine ⟨A3, n1 + n2, c3, rfl, ?_, ?_, Hw3.out⟩
    · have := own_down Ho3.out (show w.heap.size ≤ w.heap.size + 1 by omega)
      unfold bytesT
      simp only [bv_append] at this ⊢
      exact this
    · unfold bytesT
      rw [List.length_append, Hn1.out, Hn2.out]
end Go.Proofs.Ytebepgoaofhelaa
