/- The walk of the statement CheatPicks: the deeds of any tick, of any player, all but those of any kind. Written by tools/gen_picks.py. Condition: internal/bytealg.MaxLen holds a number. -/
import Derived.Test.YtigolkdclacikaaDoorChE
import Derived.Test.YtigolkdclacikaaDoorChG
import Derived.Test.YtigolkdclacikaaDoorChU
import Derived.Maps.AppendAt
namespace Go.Proofs.YtigolkdclacikaaDoor
open Go.RowKit Go.Lib
/-- Two slices that lie in no one row. -/
def Ap (x y : Value) : Prop := ∀ g, ¬ (x.ownBlock = some g ∧ y.ownBlock = some g)
theorem Ap.symm {x y : Value} (h : Ap x y) : Ap y x := fun g hg => h g ⟨hg.2, hg.1⟩
theorem Ap.ne {x y : Value} (h : Ap x y) : x.ownBlock = none ∨ x.ownBlock ≠ y.ownBlock := by
  cases e : x.ownBlock with
  | none => exact .inl rfl
  | some g => exact .inr fun e2 => h g ⟨e, e2.symm⟩
theorem Ap.nil (y : Value) : Ap (.slice none 0 0) y := fun g hg => by simp [Value.ownBlock] at hg
theorem Ap.grown {x y y' : Value} {w : World} {base : Nat} {e : TypeId} {sz n : Nat} {xs : List Value} (h : Ap x y) (hx : w.ownsRow base e sz x n xs) (hy : y'.ownBlock = y.ownBlock ∨ y'.ownBlock = some (w.heap.size + 1)) : Ap x y' := by
  rintro g ⟨h1, h2⟩
  rcases hy with e1 | e1
  · exact h g ⟨h1, by rw [← e1]; exact h2⟩
  · rw [e1] at h2
    have := (hx.lt g h1).2
    injection h2 with h2
    omega
theorem append_at {P : Program} {ops : Array Oper} {rest : List Oper} {o : Oper} {a : Act} {Q : Exit → Act → World → Prop} (w : World) (hgd : o.guard = none) (s x : Operand) (t : TypeId)
    (ho : o.op = .call { callee := .builtin .append, args := #[s, x], argTypes := #[t, t] })
    (base : Nat) (e : TypeId) (i : TypeInfo) (z : Value) (sz bytes : Nat) (ht : P.underlying t = some (.slice e)) (hinfo : P.info? e = some i ∧ i.zero = some z ∧ i.size = sz ∧ i.bytes = bytes)
    (hzs : z.cells.size = sz) (hsz : 0 < sz) (v : Value) (n : Nat) (xs : List Value) (hs : a.eval s = v) (hown : w.ownsRow base e sz v n xs)
    (m c : Nat) (cs : Array Value) (e' : TypeId) (hx : a.eval x = .slice (some ⟨w.heap.size, 0, none⟩) m c) (hl : cs.size = m * sz) (h1 : ∀ u ∈ cs.toList, u.oneCell' = true)
    (h63 : n + m ≤ 281474976710656) (hbytes : (n + m) * bytes ≤ 140737488355328) (hbase : base ≤ w.heap.size)
    (h : ∀ v' w', w'.ownsRow base e sz v' (n + m) (xs ++ cs.toList) → Below base w w' → (w.alloc (.cells cs e')).grownBy w' v.ownBlock → (v'.ownBlock = v.ownBlock ∨ v'.ownBlock = some (w.heap.size + 1)) → wpList P ops Q rest (a.put o.dst v') w') : wpList P ops Q (o :: rest) a (w.alloc (.cells cs e')) := by
  refine wpList_append_own_at (w.alloc (.cells cs e')) hgd s x t ho base e i z sz bytes ht hinfo.1 hinfo.2.1 hinfo.2.2.1 hinfo.2.2.2 hzs hsz v n xs hs (hown.alloc _) ⟨w.heap.size, 0, none⟩ m c cs.toList hx (by simpa using hl) ?_ h1 (by simp only [maxLen]; omega) hbytes (by simp; omega) ?_
  · intro j u hu
    have := cell_of_row (w.alloc (.cells cs e')) w.heap.size j cs e' (0, 0) (heap_alloc_new w _)
    have e0 : (⟨w.heap.size, 0, none⟩ : Addr).add j = ⟨w.heap.size, j, none⟩ := by unfold Addr.add; split <;> simp_all
    rw [e0, this]; simpa using hu
  · intro v' w' hown' hg _ hat
    refine h v' w' hown' (((Below.refl _ _).alloc hbase _).grown hg (by simp; omega) (fun k hk => (hown.lt k hk).1)) hg (by simpa using hat)
set_option maxRecDepth 100000 in
set_option maxHeartbeats 8000000 in
theorem picks_any (A : Option Addr) (n c : Nat) (l : List De) (v kind : Int) (w : World) (hM : MaxAt w) (hr : Rd w w.heap.size 5 A n (flat l)) (hn : n ≤ 9223372036854775807) :
    Calls Tryd.prog 4 #[.slice A n c, .int .i64 v, .int .i64 kind] w fun e w' => e = .returned (.bool true) ∧ Below w.heap.size w w' := by
  obtain ⟨i0, hi, hz0, hz1, hz2⟩ := info_parts info_DeR
  have HI := Lib.hid (And.intro hi (And.intro hz0 (And.intro hz1 hz2))); clear hi hz0 hz1 hz2
  have Hl := Lib.hid hr.dlen
  have Hr := Lib.hid hr
  clear hr
  by_cases h3 : 300 < n
  · have hd : decide ((300 : Int) < (n : Int)) = true := decide_eq_true (by omega)
    clear h3
    go_enter Tryd.func4, Tryd.ntmps4
    go_wp2_with (go_at_call 10; refine (told_any w hM).mono ?_; rintro e w1 ⟨rfl, hb1⟩; have Hb1 := Lib.hid hb1; clear hb1)
    go_ret
    exact ⟨rfl, Hb1.out⟩
  have hd : decide ((300 : Int) < (n : Int)) = false := decide_eq_false (by omega)
  have hn3 : n ≤ 300 := by omega
  clear h3 hn
  go_enter Tryd.func4, Tryd.ntmps4
  go_wp2
  go_loopw [7, 8, 9, 10] (fun u7 u8 u9 i wr => ∃ (k n7 n8 n9 : Nat) (A7 : Option Addr) (c7 : Nat) (A8 : Option Addr) (c8 : Nat) (A9 : Option Addr) (c9 : Nat), k ≤ n ∧ i = .int .i64 (k : Int) ∧ u7 = .slice A7 n7 c7 ∧ u8 = .slice A8 n8 c8 ∧ u9 = .slice A9 n9 c9 ∧ n7 ≤ k ∧ n8 ≤ k ∧ n9 ≤ k ∧
    wr.ownsRow w.heap.size 35 5 (.slice A7 n7 c7) n7 (flat ((l.take k).filter (isT v))) ∧ wr.ownsRow w.heap.size 35 5 (.slice A8 n8 c8) n8 (flat ((l.take k).filter (isW v))) ∧ wr.ownsRow w.heap.size 35 5 (.slice A9 n9 c9) n9 (flat ((l.take k).filter (isNotK kind))) ∧
    Ap (.slice A7 n7 c7) (.slice A8 n8 c8) ∧ Ap (.slice A7 n7 c7) (.slice A9 n9 c9) ∧ Ap (.slice A8 n8 c8) (.slice A9 n9 c9) ∧ Below w.heap.size w wr) (fun _ _ _ i _ => n - (Lib.intOf i).toNat)
  case atStart => exact ⟨0, 0, 0, 0, none, 0, none, 0, none, 0, Nat.zero_le _, rfl, rfl, rfl, rfl, Nat.le_refl _, Nat.le_refl _, Nat.le_refl _, World.ownsRow_nil _ _ _ _, World.ownsRow_nil _ _ _ _, World.ownsRow_nil _ _ _ _, Ap.nil _, Ap.nil _, Ap.nil _, Below.refl _ _⟩
  case round =>
    obtain ⟨k, n7, n8, n9, A7, c7, A8, c8, A9, c9, hk, rfl, rfl, rfl, rfl, hn7, hn8, hn9, o7, o8, o9, p78, p79, p89, hbel⟩ := hrel
    have O7 := Lib.hid o7; have O8 := Lib.hid o8; have O9 := Lib.hid o9; have P78 := Lib.hid p78; have P79 := Lib.hid p79; have P89 := Lib.hid p89; have HB := Lib.hid hbel
    have hsz := hbel.size
    clear o7 o8 o9 p78 p79 p89
    by_cases hlt : k < n
    · obtain ⟨b, o, rfl, hbB, x0, x1, x2, x3, x4⟩ := (Hr.out.below hbel (Nat.le_refl _)).de hlt
      have hkl : k < l.length := by have := Hl.out; omega
      have Y7 := Lib.hid (filt_yes (p := isT v) hkl); have N7 := Lib.hid (filt_no (p := isT v) hkl)
      have Y8 := Lib.hid (filt_yes (p := isW v) hkl); have N8 := Lib.hid (filt_no (p := isW v) hkl)
      have Y9 := Lib.hid (filt_yes (p := isNotK kind) hkl); have N9 := Lib.hid (filt_no (p := isNotK kind) hkl)
      generalize l.getD k default = d at *
      obtain ⟨t, kd, wh, a, b'⟩ := d
      simp only at x0 x1 x2 x3 x4
      have hi0 : (0 : Int) ≤ (k : Int) := by omega
      have hi1 : (k : Int) < (n : Int) := by omega
      clear hbel hkl
      cases h7 : isT v ⟨t, kd, wh, a, b'⟩ with
      | true =>
        have g7 : (t == v) = true := h7
        cases h8 : isW v ⟨t, kd, wh, a, b'⟩ with
        | true =>
          have g8 : (wh == v) = true := h8
          cases h9 : isNotK kind ⟨t, kd, wh, a, b'⟩ with
          | true =>
            have g9 : (kd != kind) = true := h9
            go_wp2_with (first
              | (have _g := O7; clear _g; at_builtin; refine append_at wr (by rfl) _ _ 22 (by rfl) w.heap.size 35 i0 (.agg #[.int .i64 0, .int .i64 0, .int .i64 0, .int .i64 0, .int .i64 0]) 5 40 Tryd.underlying22 HI.out rfl (by decide) _ _ _ (by rfl) O7.out 1 1 #[.int .i64 t, .int .i64 kd, .int .i64 wh, .int .i64 a, .int .i64 b'] 35 (by simp [Act.eval]) rfl (by simp [Value.oneCell']) (by omega) (by omega) (by omega) ?_; intro v7 w7 own7 bel7 gr7 at7; obtain ⟨B7, d7, rfl⟩ := own_form own7; have O8_7 := Lib.hid ((World.ownsRow.alloc O8.out _).kept gr7 (P78.out.symm).ne); have O9_7 := Lib.hid ((World.ownsRow.alloc O9.out _).kept gr7 (P79.out.symm).ne); have P78_7 := Lib.hid (Ap.symm (Ap.grown (P78.out.symm) O8.out at7)); have P79_7 := Lib.hid (Ap.symm (Ap.grown (P79.out.symm) O9.out at7)); have hx7 := (bcell bel7).1 b; have HB7 := Lib.hid (HB.out.trans bel7); have O7_n := Lib.hid own7; have hsz7 := HB7.out.size; have y0_7 := (hx7 _ hbB).trans x0; have y1_7 := (hx7 _ hbB).trans x1; have y2_7 := (hx7 _ hbB).trans x2; have y3_7 := (hx7 _ hbB).trans x3; have y4_7 := (hx7 _ hbB).trans x4; clear own7 bel7 gr7 at7 hx7 O7)
              | (have _g := O8_7; clear _g; at_builtin; refine append_at w7 (by rfl) _ _ 22 (by rfl) w.heap.size 35 i0 (.agg #[.int .i64 0, .int .i64 0, .int .i64 0, .int .i64 0, .int .i64 0]) 5 40 Tryd.underlying22 HI.out rfl (by decide) _ _ _ (by rfl) O8_7.out 1 1 #[.int .i64 t, .int .i64 kd, .int .i64 wh, .int .i64 a, .int .i64 b'] 35 (by simp [Act.eval]) rfl (by simp [Value.oneCell']) (by omega) (by omega) (by omega) ?_; intro v8 w8 own8 bel8 gr8 at8; obtain ⟨B8, d8, rfl⟩ := own_form own8; have O7_8 := Lib.hid ((World.ownsRow.alloc O7_n.out _).kept gr8 (P78_7.out).ne); have O9_8 := Lib.hid ((World.ownsRow.alloc O9_7.out _).kept gr8 (P89.out.symm).ne); have P78_8 := Lib.hid (Ap.grown (P78_7.out) O7_n.out at8); have P89_8 := Lib.hid (Ap.symm (Ap.grown (P89.out.symm) O9_7.out at8)); have hx8 := (bcell bel8).1 b; have HB8 := Lib.hid (HB7.out.trans bel8); have O8_n := Lib.hid own8; have hsz8 := HB8.out.size; have y0_8 := (hx8 _ hbB).trans y0_7; have y1_8 := (hx8 _ hbB).trans y1_7; have y2_8 := (hx8 _ hbB).trans y2_7; have y3_8 := (hx8 _ hbB).trans y3_7; have y4_8 := (hx8 _ hbB).trans y4_7; clear own8 bel8 gr8 at8 hx8 O8_7)
              | (have _g := O9_8; clear _g; at_builtin; refine append_at w8 (by rfl) _ _ 22 (by rfl) w.heap.size 35 i0 (.agg #[.int .i64 0, .int .i64 0, .int .i64 0, .int .i64 0, .int .i64 0]) 5 40 Tryd.underlying22 HI.out rfl (by decide) _ _ _ (by rfl) O9_8.out 1 1 #[.int .i64 t, .int .i64 kd, .int .i64 wh, .int .i64 a, .int .i64 b'] 35 (by simp [Act.eval]) rfl (by simp [Value.oneCell']) (by omega) (by omega) (by omega) ?_; intro v9 w9 own9 bel9 gr9 at9; obtain ⟨B9, d9, rfl⟩ := own_form own9; have O7_9 := Lib.hid ((World.ownsRow.alloc O7_8.out _).kept gr9 (P79_7.out).ne); have O8_9 := Lib.hid ((World.ownsRow.alloc O8_n.out _).kept gr9 (P89_8.out).ne); have P79_9 := Lib.hid (Ap.grown (P79_7.out) O7_8.out at9); have P89_9 := Lib.hid (Ap.grown (P89_8.out) O8_n.out at9); have hx9 := (bcell bel9).1 b; have HB9 := Lib.hid (HB8.out.trans bel9); have O9_n := Lib.hid own9; have hsz9 := HB9.out.size; have y0_9 := (hx9 _ hbB).trans y0_8; have y1_9 := (hx9 _ hbB).trans y1_8; have y2_9 := (hx9 _ hbB).trans y2_8; have y3_9 := (hx9 _ hbB).trans y3_8; have y4_9 := (hx9 _ hbB).trans y4_8; clear own9 bel9 gr9 at9 hx9 O9_8))
            go_roundw
            case rel => exact ⟨k + 1, n7 + 1, n8 + 1, n9 + 1, B7, d7, B8, d8, B9, d9, hlt, by go_num, rfl, rfl, rfl, by omega, by omega, by omega, by rw [Y7.out h7, flat_append]; exact O7_9.out, by rw [Y8.out h8, flat_append]; exact O8_9.out, by rw [Y9.out h9, flat_append]; exact O9_n.out, P78_8.out, P79_9.out, P89_9.out, HB9.out⟩
            case measure => simp [Lib.intOf]; omega
          | false =>
            have g9 : (kd != kind) = false := h9
            go_wp2_with (first
              | (have _g := O7; clear _g; at_builtin; refine append_at wr (by rfl) _ _ 22 (by rfl) w.heap.size 35 i0 (.agg #[.int .i64 0, .int .i64 0, .int .i64 0, .int .i64 0, .int .i64 0]) 5 40 Tryd.underlying22 HI.out rfl (by decide) _ _ _ (by rfl) O7.out 1 1 #[.int .i64 t, .int .i64 kd, .int .i64 wh, .int .i64 a, .int .i64 b'] 35 (by simp [Act.eval]) rfl (by simp [Value.oneCell']) (by omega) (by omega) (by omega) ?_; intro v7 w7 own7 bel7 gr7 at7; obtain ⟨B7, d7, rfl⟩ := own_form own7; have O8_7 := Lib.hid ((World.ownsRow.alloc O8.out _).kept gr7 (P78.out.symm).ne); have O9_7 := Lib.hid ((World.ownsRow.alloc O9.out _).kept gr7 (P79.out.symm).ne); have P78_7 := Lib.hid (Ap.symm (Ap.grown (P78.out.symm) O8.out at7)); have P79_7 := Lib.hid (Ap.symm (Ap.grown (P79.out.symm) O9.out at7)); have hx7 := (bcell bel7).1 b; have HB7 := Lib.hid (HB.out.trans bel7); have O7_n := Lib.hid own7; have hsz7 := HB7.out.size; have y0_7 := (hx7 _ hbB).trans x0; have y1_7 := (hx7 _ hbB).trans x1; have y2_7 := (hx7 _ hbB).trans x2; have y3_7 := (hx7 _ hbB).trans x3; have y4_7 := (hx7 _ hbB).trans x4; clear own7 bel7 gr7 at7 hx7 O7)
              | (have _g := O8_7; clear _g; at_builtin; refine append_at w7 (by rfl) _ _ 22 (by rfl) w.heap.size 35 i0 (.agg #[.int .i64 0, .int .i64 0, .int .i64 0, .int .i64 0, .int .i64 0]) 5 40 Tryd.underlying22 HI.out rfl (by decide) _ _ _ (by rfl) O8_7.out 1 1 #[.int .i64 t, .int .i64 kd, .int .i64 wh, .int .i64 a, .int .i64 b'] 35 (by simp [Act.eval]) rfl (by simp [Value.oneCell']) (by omega) (by omega) (by omega) ?_; intro v8 w8 own8 bel8 gr8 at8; obtain ⟨B8, d8, rfl⟩ := own_form own8; have O7_8 := Lib.hid ((World.ownsRow.alloc O7_n.out _).kept gr8 (P78_7.out).ne); have O9_8 := Lib.hid ((World.ownsRow.alloc O9_7.out _).kept gr8 (P89.out.symm).ne); have P78_8 := Lib.hid (Ap.grown (P78_7.out) O7_n.out at8); have P89_8 := Lib.hid (Ap.symm (Ap.grown (P89.out.symm) O9_7.out at8)); have hx8 := (bcell bel8).1 b; have HB8 := Lib.hid (HB7.out.trans bel8); have O8_n := Lib.hid own8; have hsz8 := HB8.out.size; have y0_8 := (hx8 _ hbB).trans y0_7; have y1_8 := (hx8 _ hbB).trans y1_7; have y2_8 := (hx8 _ hbB).trans y2_7; have y3_8 := (hx8 _ hbB).trans y3_7; have y4_8 := (hx8 _ hbB).trans y4_7; clear own8 bel8 gr8 at8 hx8 O8_7))
            go_roundw
            case rel => exact ⟨k + 1, n7 + 1, n8 + 1, n9, B7, d7, B8, d8, A9, c9, hlt, by go_num, rfl, rfl, rfl, by omega, by omega, by omega, by rw [Y7.out h7, flat_append]; exact O7_8.out, by rw [Y8.out h8, flat_append]; exact O8_n.out, by rw [N9.out h9]; exact O9_8.out, P78_8.out, P79_7.out, P89_8.out, HB8.out⟩
            case measure => simp [Lib.intOf]; omega
        | false =>
          have g8 : (wh == v) = false := h8
          cases h9 : isNotK kind ⟨t, kd, wh, a, b'⟩ with
          | true =>
            have g9 : (kd != kind) = true := h9
            go_wp2_with (first
              | (have _g := O7; clear _g; at_builtin; refine append_at wr (by rfl) _ _ 22 (by rfl) w.heap.size 35 i0 (.agg #[.int .i64 0, .int .i64 0, .int .i64 0, .int .i64 0, .int .i64 0]) 5 40 Tryd.underlying22 HI.out rfl (by decide) _ _ _ (by rfl) O7.out 1 1 #[.int .i64 t, .int .i64 kd, .int .i64 wh, .int .i64 a, .int .i64 b'] 35 (by simp [Act.eval]) rfl (by simp [Value.oneCell']) (by omega) (by omega) (by omega) ?_; intro v7 w7 own7 bel7 gr7 at7; obtain ⟨B7, d7, rfl⟩ := own_form own7; have O8_7 := Lib.hid ((World.ownsRow.alloc O8.out _).kept gr7 (P78.out.symm).ne); have O9_7 := Lib.hid ((World.ownsRow.alloc O9.out _).kept gr7 (P79.out.symm).ne); have P78_7 := Lib.hid (Ap.symm (Ap.grown (P78.out.symm) O8.out at7)); have P79_7 := Lib.hid (Ap.symm (Ap.grown (P79.out.symm) O9.out at7)); have hx7 := (bcell bel7).1 b; have HB7 := Lib.hid (HB.out.trans bel7); have O7_n := Lib.hid own7; have hsz7 := HB7.out.size; have y0_7 := (hx7 _ hbB).trans x0; have y1_7 := (hx7 _ hbB).trans x1; have y2_7 := (hx7 _ hbB).trans x2; have y3_7 := (hx7 _ hbB).trans x3; have y4_7 := (hx7 _ hbB).trans x4; clear own7 bel7 gr7 at7 hx7 O7)
              | (have _g := O9_7; clear _g; at_builtin; refine append_at w7 (by rfl) _ _ 22 (by rfl) w.heap.size 35 i0 (.agg #[.int .i64 0, .int .i64 0, .int .i64 0, .int .i64 0, .int .i64 0]) 5 40 Tryd.underlying22 HI.out rfl (by decide) _ _ _ (by rfl) O9_7.out 1 1 #[.int .i64 t, .int .i64 kd, .int .i64 wh, .int .i64 a, .int .i64 b'] 35 (by simp [Act.eval]) rfl (by simp [Value.oneCell']) (by omega) (by omega) (by omega) ?_; intro v9 w9 own9 bel9 gr9 at9; obtain ⟨B9, d9, rfl⟩ := own_form own9; have O7_9 := Lib.hid ((World.ownsRow.alloc O7_n.out _).kept gr9 (P79_7.out).ne); have O8_9 := Lib.hid ((World.ownsRow.alloc O8_7.out _).kept gr9 (P89.out).ne); have P79_9 := Lib.hid (Ap.grown (P79_7.out) O7_n.out at9); have P89_9 := Lib.hid (Ap.grown (P89.out) O8_7.out at9); have hx9 := (bcell bel9).1 b; have HB9 := Lib.hid (HB7.out.trans bel9); have O9_n := Lib.hid own9; have hsz9 := HB9.out.size; have y0_9 := (hx9 _ hbB).trans y0_7; have y1_9 := (hx9 _ hbB).trans y1_7; have y2_9 := (hx9 _ hbB).trans y2_7; have y3_9 := (hx9 _ hbB).trans y3_7; have y4_9 := (hx9 _ hbB).trans y4_7; clear own9 bel9 gr9 at9 hx9 O9_7))
            go_roundw
            case rel => exact ⟨k + 1, n7 + 1, n8, n9 + 1, B7, d7, A8, c8, B9, d9, hlt, by go_num, rfl, rfl, rfl, by omega, by omega, by omega, by rw [Y7.out h7, flat_append]; exact O7_9.out, by rw [N8.out h8]; exact O8_9.out, by rw [Y9.out h9, flat_append]; exact O9_n.out, P78_7.out, P79_9.out, P89_9.out, HB9.out⟩
            case measure => simp [Lib.intOf]; omega
          | false =>
            have g9 : (kd != kind) = false := h9
            go_wp2_with (first
              | (have _g := O7; clear _g; at_builtin; refine append_at wr (by rfl) _ _ 22 (by rfl) w.heap.size 35 i0 (.agg #[.int .i64 0, .int .i64 0, .int .i64 0, .int .i64 0, .int .i64 0]) 5 40 Tryd.underlying22 HI.out rfl (by decide) _ _ _ (by rfl) O7.out 1 1 #[.int .i64 t, .int .i64 kd, .int .i64 wh, .int .i64 a, .int .i64 b'] 35 (by simp [Act.eval]) rfl (by simp [Value.oneCell']) (by omega) (by omega) (by omega) ?_; intro v7 w7 own7 bel7 gr7 at7; obtain ⟨B7, d7, rfl⟩ := own_form own7; have O8_7 := Lib.hid ((World.ownsRow.alloc O8.out _).kept gr7 (P78.out.symm).ne); have O9_7 := Lib.hid ((World.ownsRow.alloc O9.out _).kept gr7 (P79.out.symm).ne); have P78_7 := Lib.hid (Ap.symm (Ap.grown (P78.out.symm) O8.out at7)); have P79_7 := Lib.hid (Ap.symm (Ap.grown (P79.out.symm) O9.out at7)); have hx7 := (bcell bel7).1 b; have HB7 := Lib.hid (HB.out.trans bel7); have O7_n := Lib.hid own7; have hsz7 := HB7.out.size; have y0_7 := (hx7 _ hbB).trans x0; have y1_7 := (hx7 _ hbB).trans x1; have y2_7 := (hx7 _ hbB).trans x2; have y3_7 := (hx7 _ hbB).trans x3; have y4_7 := (hx7 _ hbB).trans x4; clear own7 bel7 gr7 at7 hx7 O7))
            go_roundw
            case rel => exact ⟨k + 1, n7 + 1, n8, n9, B7, d7, A8, c8, A9, c9, hlt, by go_num, rfl, rfl, rfl, by omega, by omega, by omega, by rw [Y7.out h7, flat_append]; exact O7_n.out, by rw [N8.out h8]; exact O8_7.out, by rw [N9.out h9]; exact O9_7.out, P78_7.out, P79_7.out, P89.out, HB7.out⟩
            case measure => simp [Lib.intOf]; omega
      | false =>
        have g7 : (t == v) = false := h7
        cases h8 : isW v ⟨t, kd, wh, a, b'⟩ with
        | true =>
          have g8 : (wh == v) = true := h8
          cases h9 : isNotK kind ⟨t, kd, wh, a, b'⟩ with
          | true =>
            have g9 : (kd != kind) = true := h9
            go_wp2_with (first
              | (have _g := O8; clear _g; at_builtin; refine append_at wr (by rfl) _ _ 22 (by rfl) w.heap.size 35 i0 (.agg #[.int .i64 0, .int .i64 0, .int .i64 0, .int .i64 0, .int .i64 0]) 5 40 Tryd.underlying22 HI.out rfl (by decide) _ _ _ (by rfl) O8.out 1 1 #[.int .i64 t, .int .i64 kd, .int .i64 wh, .int .i64 a, .int .i64 b'] 35 (by simp [Act.eval]) rfl (by simp [Value.oneCell']) (by omega) (by omega) (by omega) ?_; intro v8 w8 own8 bel8 gr8 at8; obtain ⟨B8, d8, rfl⟩ := own_form own8; have O7_8 := Lib.hid ((World.ownsRow.alloc O7.out _).kept gr8 (P78.out).ne); have O9_8 := Lib.hid ((World.ownsRow.alloc O9.out _).kept gr8 (P89.out.symm).ne); have P78_8 := Lib.hid (Ap.grown (P78.out) O7.out at8); have P89_8 := Lib.hid (Ap.symm (Ap.grown (P89.out.symm) O9.out at8)); have hx8 := (bcell bel8).1 b; have HB8 := Lib.hid (HB.out.trans bel8); have O8_n := Lib.hid own8; have hsz8 := HB8.out.size; have y0_8 := (hx8 _ hbB).trans x0; have y1_8 := (hx8 _ hbB).trans x1; have y2_8 := (hx8 _ hbB).trans x2; have y3_8 := (hx8 _ hbB).trans x3; have y4_8 := (hx8 _ hbB).trans x4; clear own8 bel8 gr8 at8 hx8 O8)
              | (have _g := O9_8; clear _g; at_builtin; refine append_at w8 (by rfl) _ _ 22 (by rfl) w.heap.size 35 i0 (.agg #[.int .i64 0, .int .i64 0, .int .i64 0, .int .i64 0, .int .i64 0]) 5 40 Tryd.underlying22 HI.out rfl (by decide) _ _ _ (by rfl) O9_8.out 1 1 #[.int .i64 t, .int .i64 kd, .int .i64 wh, .int .i64 a, .int .i64 b'] 35 (by simp [Act.eval]) rfl (by simp [Value.oneCell']) (by omega) (by omega) (by omega) ?_; intro v9 w9 own9 bel9 gr9 at9; obtain ⟨B9, d9, rfl⟩ := own_form own9; have O7_9 := Lib.hid ((World.ownsRow.alloc O7_8.out _).kept gr9 (P79.out).ne); have O8_9 := Lib.hid ((World.ownsRow.alloc O8_n.out _).kept gr9 (P89_8.out).ne); have P79_9 := Lib.hid (Ap.grown (P79.out) O7_8.out at9); have P89_9 := Lib.hid (Ap.grown (P89_8.out) O8_n.out at9); have hx9 := (bcell bel9).1 b; have HB9 := Lib.hid (HB8.out.trans bel9); have O9_n := Lib.hid own9; have hsz9 := HB9.out.size; have y0_9 := (hx9 _ hbB).trans y0_8; have y1_9 := (hx9 _ hbB).trans y1_8; have y2_9 := (hx9 _ hbB).trans y2_8; have y3_9 := (hx9 _ hbB).trans y3_8; have y4_9 := (hx9 _ hbB).trans y4_8; clear own9 bel9 gr9 at9 hx9 O9_8))
            go_roundw
            case rel => exact ⟨k + 1, n7, n8 + 1, n9 + 1, A7, c7, B8, d8, B9, d9, hlt, by go_num, rfl, rfl, rfl, by omega, by omega, by omega, by rw [N7.out h7]; exact O7_9.out, by rw [Y8.out h8, flat_append]; exact O8_9.out, by rw [Y9.out h9, flat_append]; exact O9_n.out, P78_8.out, P79_9.out, P89_9.out, HB9.out⟩
            case measure => simp [Lib.intOf]; omega
          | false =>
            have g9 : (kd != kind) = false := h9
            go_wp2_with (first
              | (have _g := O8; clear _g; at_builtin; refine append_at wr (by rfl) _ _ 22 (by rfl) w.heap.size 35 i0 (.agg #[.int .i64 0, .int .i64 0, .int .i64 0, .int .i64 0, .int .i64 0]) 5 40 Tryd.underlying22 HI.out rfl (by decide) _ _ _ (by rfl) O8.out 1 1 #[.int .i64 t, .int .i64 kd, .int .i64 wh, .int .i64 a, .int .i64 b'] 35 (by simp [Act.eval]) rfl (by simp [Value.oneCell']) (by omega) (by omega) (by omega) ?_; intro v8 w8 own8 bel8 gr8 at8; obtain ⟨B8, d8, rfl⟩ := own_form own8; have O7_8 := Lib.hid ((World.ownsRow.alloc O7.out _).kept gr8 (P78.out).ne); have O9_8 := Lib.hid ((World.ownsRow.alloc O9.out _).kept gr8 (P89.out.symm).ne); have P78_8 := Lib.hid (Ap.grown (P78.out) O7.out at8); have P89_8 := Lib.hid (Ap.symm (Ap.grown (P89.out.symm) O9.out at8)); have hx8 := (bcell bel8).1 b; have HB8 := Lib.hid (HB.out.trans bel8); have O8_n := Lib.hid own8; have hsz8 := HB8.out.size; have y0_8 := (hx8 _ hbB).trans x0; have y1_8 := (hx8 _ hbB).trans x1; have y2_8 := (hx8 _ hbB).trans x2; have y3_8 := (hx8 _ hbB).trans x3; have y4_8 := (hx8 _ hbB).trans x4; clear own8 bel8 gr8 at8 hx8 O8))
            go_roundw
            case rel => exact ⟨k + 1, n7, n8 + 1, n9, A7, c7, B8, d8, A9, c9, hlt, by go_num, rfl, rfl, rfl, by omega, by omega, by omega, by rw [N7.out h7]; exact O7_8.out, by rw [Y8.out h8, flat_append]; exact O8_n.out, by rw [N9.out h9]; exact O9_8.out, P78_8.out, P79.out, P89_8.out, HB8.out⟩
            case measure => simp [Lib.intOf]; omega
        | false =>
          have g8 : (wh == v) = false := h8
          cases h9 : isNotK kind ⟨t, kd, wh, a, b'⟩ with
          | true =>
            have g9 : (kd != kind) = true := h9
            go_wp2_with (first
              | (have _g := O9; clear _g; at_builtin; refine append_at wr (by rfl) _ _ 22 (by rfl) w.heap.size 35 i0 (.agg #[.int .i64 0, .int .i64 0, .int .i64 0, .int .i64 0, .int .i64 0]) 5 40 Tryd.underlying22 HI.out rfl (by decide) _ _ _ (by rfl) O9.out 1 1 #[.int .i64 t, .int .i64 kd, .int .i64 wh, .int .i64 a, .int .i64 b'] 35 (by simp [Act.eval]) rfl (by simp [Value.oneCell']) (by omega) (by omega) (by omega) ?_; intro v9 w9 own9 bel9 gr9 at9; obtain ⟨B9, d9, rfl⟩ := own_form own9; have O7_9 := Lib.hid ((World.ownsRow.alloc O7.out _).kept gr9 (P79.out).ne); have O8_9 := Lib.hid ((World.ownsRow.alloc O8.out _).kept gr9 (P89.out).ne); have P79_9 := Lib.hid (Ap.grown (P79.out) O7.out at9); have P89_9 := Lib.hid (Ap.grown (P89.out) O8.out at9); have hx9 := (bcell bel9).1 b; have HB9 := Lib.hid (HB.out.trans bel9); have O9_n := Lib.hid own9; have hsz9 := HB9.out.size; have y0_9 := (hx9 _ hbB).trans x0; have y1_9 := (hx9 _ hbB).trans x1; have y2_9 := (hx9 _ hbB).trans x2; have y3_9 := (hx9 _ hbB).trans x3; have y4_9 := (hx9 _ hbB).trans x4; clear own9 bel9 gr9 at9 hx9 O9))
            go_roundw
            case rel => exact ⟨k + 1, n7, n8, n9 + 1, A7, c7, A8, c8, B9, d9, hlt, by go_num, rfl, rfl, rfl, by omega, by omega, by omega, by rw [N7.out h7]; exact O7_9.out, by rw [N8.out h8]; exact O8_9.out, by rw [Y9.out h9, flat_append]; exact O9_n.out, P78.out, P79_9.out, P89_9.out, HB9.out⟩
            case measure => simp [Lib.intOf]; omega
          | false =>
            have g9 : (kd != kind) = false := h9
            go_wp2
            go_roundw
            case rel => exact ⟨k + 1, n7, n8, n9, A7, c7, A8, c8, A9, c9, hlt, by go_num, rfl, rfl, rfl, by omega, by omega, by omega, by rw [N7.out h7]; exact O7.out, by rw [N8.out h8]; exact O8.out, by rw [N9.out h9]; exact O9.out, P78.out, P79.out, P89.out, HB.out⟩
            case measure => simp [Lib.intOf]; omega
    · have hkn : n ≤ k := by omega
      clear hlt
      have e : l.take k = l := List.take_of_length_le (by have := Hl.out; omega)
      rw [e] at O7 O8 O9
      have r7 := Rd.of_own O7.out; have r8 := Rd.of_own O8.out; have r9 := Rd.of_own O9.out
      have e7 := r7.dlen; have e8 := r8.dlen; have e9 := r9.dlen
      have R7 := Lib.hid r7; have R8 := Lib.hid r8; have R9 := Lib.hid r9
      have E7 := Lib.hid e7; have E8 := Lib.hid e8; have E9 := Lib.hid e9
      have Hr1 := Lib.hid ((Hr.out.below hbel (Nat.le_refl _)).more hbel.size)
      clear r7 r8 r9 e7 e8 e9 e hbel O7 O8 O9 P78 P79 P89
      go_wp2_with fail
      refine (own_any A n c l wr Hr1.out (by omega)).mono ?_
      rintro e w1 ⟨A1, n1, c1, rfl, hr1, hn1, hb1⟩
      have HB1 := Lib.hid (HB.out.trans (hb1.mono hsz)); have Hr2 := Lib.hid hr1
      have R7a := Lib.hid ((R7.out.below hb1 (Nat.le_refl _)).more hb1.size); have R8a := Lib.hid ((R8.out.below hb1 (Nat.le_refl _)).more hb1.size); have R9a := Lib.hid ((R9.out.below hb1 (Nat.le_refl _)).more hb1.size)
      have hn1b : n1 ≤ 300 := by rw [hn1, Hl.out]; omega
      clear hb1 hr1 hn1
      go_wp2_with fail
      refine (at_any v A1 n1 c1 l w1 Hr2.out (by omega)).mono ?_
      rintro e w2 ⟨A2, n2, c2, rfl, hr2, hn2, hb2⟩
      have hq2 : n2 = n7 := by rw [hn2, E7.out]
      subst hq2
      have HB2 := Lib.hid (HB1.out.trans (hb2.mono HB1.out.size)); have Hr3 := Lib.hid ((Hr2.out.below hb2 (Nat.le_refl _)).more hb2.size)
      have R7b := Lib.hid ((R7a.out.below hb2 (Nat.le_refl _)).more hb2.size); have R8b := Lib.hid ((R8a.out.below hb2 (Nat.le_refl _)).more hb2.size); have R9b := Lib.hid ((R9a.out.below hb2 (Nat.le_refl _)).more hb2.size)
      have S2 := Lib.hid hr2
      clear hb2 hr2 hn2
      go_wp2_with fail
      refine (alike_self A2 A7 n2 c2 c7 (l.filter (isT v)) w2 S2.out R7b.out (by omega)).mono ?_
      rintro e w3 ⟨rfl, hb3⟩
      have HB3 := Lib.hid (HB2.out.trans (hb3.mono HB2.out.size)); have Hr4 := Lib.hid ((Hr3.out.below hb3 (Nat.le_refl _)).more hb3.size)
      have R8c := Lib.hid ((R8b.out.below hb3 (Nat.le_refl _)).more hb3.size); have R9c := Lib.hid ((R9b.out.below hb3 (Nat.le_refl _)).more hb3.size)
      clear hb3
      go_wp2_with fail
      refine (of_any v A1 n1 c1 l w3 Hr4.out (by omega)).mono ?_
      rintro e w4 ⟨A4, n4, c4, rfl, hr4, hn4, hb4⟩
      have hq4 : n4 = n8 := by rw [hn4, E8.out]
      subst hq4
      have HB4 := Lib.hid (HB3.out.trans (hb4.mono HB3.out.size)); have Hr5 := Lib.hid ((Hr4.out.below hb4 (Nat.le_refl _)).more hb4.size)
      have R8d := Lib.hid ((R8c.out.below hb4 (Nat.le_refl _)).more hb4.size); have R9d := Lib.hid ((R9c.out.below hb4 (Nat.le_refl _)).more hb4.size)
      have S4 := Lib.hid hr4
      clear hb4 hr4 hn4
      go_wp2_with fail
      refine (alike_self A4 A8 n4 c4 c8 (l.filter (isW v)) w4 S4.out R8d.out (by omega)).mono ?_
      rintro e w5 ⟨rfl, hb5⟩
      have HB5 := Lib.hid (HB4.out.trans (hb5.mono HB4.out.size)); have Hr6 := Lib.hid ((Hr5.out.below hb5 (Nat.le_refl _)).more hb5.size)
      have R9e := Lib.hid ((R9d.out.below hb5 (Nat.le_refl _)).more hb5.size)
      clear hb5
      go_wp2_with fail
      refine (without_any kind A1 n1 c1 l w5 Hr6.out (by omega)).mono ?_
      rintro e w6 ⟨A6, n6, c6, rfl, hr6, hn6, hb6⟩
      have hq6 : n6 = n9 := by rw [hn6, E9.out]
      subst hq6
      have HB6 := Lib.hid (HB5.out.trans (hb6.mono HB5.out.size))
      have R9f := Lib.hid ((R9e.out.below hb6 (Nat.le_refl _)).more hb6.size)
      have S6 := Lib.hid hr6
      clear hb6 hr6 hn6
      go_wp2_with fail
      refine (alike_self A6 A9 n6 c6 c9 (l.filter (isNotK kind)) w6 S6.out R9f.out (by omega)).mono ?_
      rintro e wA ⟨rfl, hbA⟩
      have HBA := Lib.hid (HB6.out.trans (hbA.mono HB6.out.size))
      have hMA := hM.below HBA.out hM.1
      clear hbA
      go_wp2_with fail
      refine (told_any wA hMA).mono ?_
      rintro e wB ⟨rfl, hbB⟩
      have HBB := Lib.hid (HBA.out.trans (hbB.mono HBA.out.size))
      clear hbB
      go_wp2
      go_ret
      exact ⟨rfl, HBB.out⟩
end Go.Proofs.YtigolkdclacikaaDoor
