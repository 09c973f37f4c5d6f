/- A tree in memory; the walks of Len, has, height, Path. Condition: at most 256 leaves. -/
import Derived.Test.YthjpaclcoipocaaDoorKeT
import Derived.Test.YthjpaclcoipocaaDoorKeS
namespace Go.Proofs.YthjpaclcoipocaaDoor
open Go.RowKit Go.Lib



/-- What a tree's cells hold: the leaves, and the rows of the first q levels. -/
def nodeV (h : Nat) (gs : Nat → Nat) (q j : Nat) : Value := if j < q then .slice (some ⟨gs j, 0, none⟩) (2 ^ (h - j)) (2 ^ (h - j)) else .slice none 0 0
def treeC (v : Value) (h : Nat) (gs : Nat → Nat) (q : Nat) : Array Value := (v :: (List.range 13).map (nodeV h gs q)).toArray
theorem treeC_size (v : Value) (h : Nat) (gs : Nat → Nat) (q : Nat) : (treeC v h gs q).size = 14 := by simp [treeC]
theorem treeC_node (v : Value) (h : Nat) (gs : Nat → Nat) (q j : Nat) (hj : j < 13) : (treeC v h gs q)[1 + j]? = some (nodeV h gs q j) := by
  unfold treeC
  rw [List.getElem?_toArray, Nat.add_comm, List.getElem?_cons_succ, List.getElem?_map, List.getElem?_range hj]; rfl
theorem treeC_set (v : Value) (h : Nat) (gs : Nat → Nat) (q g : Nat) (hq : q < 13) : (treeC v h gs q).setIfInBounds (1 + q) (.slice (some ⟨g, 0, none⟩) (2 ^ (h - q)) (2 ^ (h - q))) = treeC v h (fun j => if j = q then g else gs j) (q + 1) := by
  apply Array.ext_getElem?
  intro i
  rw [Array.getElem?_setIfInBounds, treeC_size]
  rcases Nat.eq_zero_or_pos i with rfl | hi
  · rw [if_neg (by omega)]; rfl
  · obtain ⟨j, rfl⟩ : ∃ j, i = 1 + j := ⟨i - 1, by omega⟩
    by_cases hj : j < 13
    · rw [treeC_node _ _ _ _ _ hj, treeC_node _ _ _ _ _ hj]
      unfold nodeV
      by_cases hjq : j = q
      · subst hjq
        rw [if_pos rfl, if_pos (by omega), if_pos (by omega)]
        simp
      · rw [if_neg (by omega)]
        by_cases hlt : j < q
        · rw [if_pos hlt, if_pos (by omega)]
          simp [hjq]
        · rw [if_neg hlt, if_neg (by omega)]
    · rw [if_neg (by omega), Array.getElem?_eq_none (by rw [treeC_size]; omega), Array.getElem?_eq_none (by rw [treeC_size]; omega)]
/-- A tree of 2 to the h leaves lies in blocks from T0 to T1, its head in block bt. -/
structure TreeAt (w : World) (T0 T1 bt h : Nat) (l : List D8) : Prop where
  hh : h ≤ 8
  len : l.length = 2 ^ h
  ok : ∀ d ∈ l, d.ok
  blk : ∃ (A : Option Addr) (c : Nat) (gs : Nat → Nat), w.heap[bt]? = some (.cells (treeC (.slice A (2 ^ h) c) h gs (h + 1)) 86 (0, 0)) ∧ w.ownsRow T0 31 8 (.slice A (2 ^ h) c) (2 ^ h) (flatD l) ∧ (∀ g, (Value.slice A (2 ^ h) c).ownBlock = some g → g < T1) ∧ ∀ j, j ≤ h → T0 ≤ gs j ∧ gs j < T1 ∧ DRow w (gs j) (2 ^ (h - j)) (lvl l j)
  lo : T0 ≤ bt
  hi : bt < T1
  hT : T1 ≤ w.heap.size
theorem TreeAt.kept {w w' : World} {T0 T1 bt h : Nat} {l : List D8} (t : TreeAt w T0 T1 bt h l) (hk : ∀ k, T0 ≤ k → k < T1 → w'.heap[k]? = w.heap[k]?) (hs : w.heap.size ≤ w'.heap.size) : TreeAt w' T0 T1 bt h l := by
  obtain ⟨A, c, gs, h1, h2, h3, h4⟩ := t.blk
  refine ⟨t.hh, t.len, t.ok, ⟨A, c, gs, (hk bt t.lo t.hi).trans h1, ?_, h3, fun j hj => ?_⟩, t.lo, t.hi, Nat.le_trans t.hT hs⟩
  · refine ⟨h2.1, ?_⟩
    rcases h2.2 with h5 | ⟨g, cap, cur, e, hb, hg, hr⟩
    · exact .inl h5
    · have hlt := h3 g (by rw [e]; rfl)
      exact .inr ⟨g, cap, cur, e, hb, (hk g hb hlt).trans hg, hr⟩
  · obtain ⟨a, b, c'⟩ := h4 j hj
    exact ⟨a, b, c'.same (hk _ a b)⟩
theorem TreeAt.below {w w' : World} {T0 T1 bt h : Nat} {l : List D8} (t : TreeAt w T0 T1 bt h l) (hb : Below w.heap.size w w') : TreeAt w' T0 T1 bt h l :=
  t.kept (fun k _ h2 => hb.block k (Nat.lt_of_lt_of_le h2 t.hT)) hb.size
set_option maxRecDepth 100000 in
set_option maxHeartbeats 1000000 in
theorem tlen_any (T0 T1 bt h : Nat) (l : List D8) (w : World) (t : TreeAt w T0 T1 bt h l) : Calls Tryd.prog 60 #[.pointer (some ⟨bt, 0, none⟩)] w fun e w' => e = .returned (.int .i64 ((2 ^ h : Nat) : Int)) ∧ w' = w := by
  obtain ⟨A, c, gs, h1, h2, h3, h4⟩ := t.blk
  have q0 : w.cell? ⟨bt, 0, none⟩ = some (.slice A (2 ^ h) c) := by rw [block_cell h1]; rfl
  have hl := block_lt h1
  clear h1 h2 h3 h4 t
  generalize 2 ^ h = n at *
  go_enter Tryd.func60, Tryd.ntmps60
  go_wp2
  go_ret
  exact ⟨rfl, rfl⟩
set_option maxRecDepth 100000 in
set_option maxHeartbeats 1000000 in
theorem theight_any (T0 T1 bt h : Nat) (l : List D8) (w : World) (t : TreeAt w T0 T1 bt h l) : Calls Tryd.prog 36 #[.pointer (some ⟨bt, 0, none⟩)] w fun e w' => e = .returned (.int .i64 (h : Int)) ∧ w' = w := by
  obtain ⟨A, c, gs, h1, h2, h3, h4⟩ := t.blk
  have q0 : w.cell? ⟨bt, 0, none⟩ = some (.slice A (2 ^ h) c) := by rw [block_cell h1]; rfl
  have hl := block_lt h1
  have Hh := Lib.hid t.hh
  clear h1 h2 h3 h4 t
  generalize hn : 2 ^ h = n at *
  have Hn := Lib.hid hn
  clear hn
  go_enter Tryd.func36, Tryd.ntmps36
  go_wp2_with fail
  refine (height_any h n w Hn.out.symm Hh.out).mono ?_
  rintro e w' ⟨rfl, rfl⟩
  go_wp2
  go_ret
  exact ⟨rfl, rfl⟩
set_option maxRecDepth 100000 in
set_option maxHeartbeats 1000000 in
theorem has_any (T0 T1 bt h i : Nat) (l : List D8) (w : World) (t : TreeAt w T0 T1 bt h l) (hi : i < 2 ^ h) : Calls Tryd.prog 40 #[.pointer (some ⟨bt, 0, none⟩), .int .i64 (i : Int)] w fun e w' => e = .returned (.bool true) ∧ w' = w := by
  have hw := tlen_any T0 T1 bt h l w t
  have hb : decide ((0 : Int) ≤ (i : Int)) = true := by simp
  clear t
  generalize 2 ^ h = n at *
  have hc : decide ((i : Int) < (n : Int)) = true := decide_eq_true (by omega)
  go_enter Tryd.func40, Tryd.ntmps40
  go_wp2_with fail
  refine hw.mono ?_
  rintro e w' ⟨rfl, rfl⟩
  go_wp2
  go_ret
  exact ⟨rfl, rfl⟩
/-- The way from leaf i up: the other one of each two. -/
def other (i : Nat) : Nat := if i % 2 = 0 then i + 1 else i - 1
def pathD (l : List D8) (i h : Nat) : List D8 := (List.range h).map (fun k => (lvl l k).getD (other (i / 2 ^ k)) D8.zero)
theorem xor_other : ∀ n : Fin 256, bits .xor .i64 (n.val : Int) 1 = (other n.val : Int) := by decide +kernel
theorem other_lt {x m : Nat} (hx : x < 2 * m) : other x < 2 * m := by unfold other; split <;> omega
theorem pathD_succ (l : List D8) (i k : Nat) : pathD l i (k + 1) = pathD l i k ++ [(lvl l k).getD (other (i / 2 ^ k)) D8.zero] := by
  unfold pathD
  rw [List.range_succ, List.map_append]; rfl
theorem pathD_len (l : List D8) (i k : Nat) : (pathD l i k).length = k := by simp [pathD]
theorem pathD_ok (l : List D8) (i k : Nat) : ∀ d ∈ pathD l i k, d.ok := by
  intro d hd
  obtain ⟨j, _, rfl⟩ := List.mem_map.1 hd
  exact getD_ok (lvl_ok l j) _
theorem div_lt {i h k : Nat} (hi : i < 2 ^ h) (hk : k < h) : i / 2 ^ k < 2 * 2 ^ (h - (k + 1)) := by
  rw [← Nat.pow_succ', Nat.div_lt_iff_lt_mul (Nat.two_pow_pos k), ← Nat.pow_add, show h - (k + 1) + 1 + k = h by omega]
  exact hi
set_option maxRecDepth 100000 in
set_option maxHeartbeats 2000000 in
theorem path_any (T0 T1 bt h i : Nat) (l : List D8) (w : World) (t : TreeAt w T0 T1 bt h l) (hi : i < 2 ^ h) :
    Calls Tryd.prog 19 #[.pointer (some ⟨bt, 0, none⟩), .int .i64 (i : Int)] w fun e w' => ∃ A c, e = .returned (.tuple #[.slice A h c, .int .i64 0]) ∧ w'.ownsRow w.heap.size 31 8 (.slice A h c) h (flatD (pathD l i h)) ∧ Below w.heap.size w w' := by
  have hw1 := has_any T0 T1 bt h i l w t hi
  have hw2 := theight_any T0 T1 bt h l w t
  have Ht := Lib.hid t; have Hi := Lib.hid hi
  have hh := t.hh
  obtain ⟨i0, hi0, hz0, hz1, hz2⟩ := info_parts info_Dg
  have HI := Lib.hid (And.intro hi0 (And.intro hz0 (And.intro hz1 hz2)))
  clear t hi hi0 hz0 hz1 hz2
  go_enter Tryd.func19, Tryd.ntmps19
  go_wp2_with fail
  refine hw1.mono ?_
  rintro e w' ⟨rfl, rfl⟩
  obtain ⟨w, rfl⟩ : ∃ w : World, w = w' := ⟨_, rfl⟩
  go_wp2_with fail
  refine hw2.mono ?_
  rintro e w' ⟨rfl, rfl⟩
  obtain ⟨w, rfl⟩ : ∃ w : World, w = w' := ⟨_, rfl⟩
  go_wp2_with (at_make; go_must (refine wpList_make_own w (by rfl) _ _ 51 (by rfl) w.heap.size 31 i0 (.agg #[.int .u8 0, .int .u8 0, .int .u8 0, .int .u8 0, .int .u8 0, .int .u8 0, .int .u8 0, .int .u8 0]) 8 Tryd.underlying51 HI.out.1 HI.out.2.1 HI.out.2.2.1 .i64 .i64 _ h (by rfl) (by rfl) (by simp) (by rw [HI.out.2.2.2]; omega) (by simp only [maxLen]; omega) (Nat.le_refl _) ?_); intro w1 hown1 hg1; have Hb1 := Lib.hid (below_of_grown hg1 (Nat.le_refl _) (by simp)); have HO1 := Lib.hid hown1; have HT1 := Lib.hid (Ht.out.below Hb1.out); clear hown1 hg1 hw1 hw2)
  have hw2 := theight_any T0 T1 bt h l w1 HT1.out
  refine hw2.mono ?_
  rintro e w' ⟨rfl, rfl⟩
  obtain ⟨w1, rfl⟩ : ∃ w1 : World, w1 = w' := ⟨_, rfl⟩
  clear hw2
  go_wp2
  go_loopw [21, 1, 6] (fun s21 s1 s6 wr => ∃ (k x : Nat) (A : Option Addr) (c : Nat), k ≤ h ∧ x = i / 2 ^ k ∧ s21 = .int .i64 (k : Int) ∧ s1 = .int .i64 (x : Int) ∧ s6 = .slice A k c ∧ wr.ownsRow w.heap.size 31 8 (.slice A k c) k (flatD (pathD l i k)) ∧ Below w.heap.size w wr) (fun s21 _ _ _ => h - (RowKit.intOf s21).toNat)
  case atStart => exact ⟨0, i, _, _, by omega, by simp, rfl, rfl, rfl, HO1.out, Hb1.out⟩
  case round =>
    obtain ⟨k, x, A, c, hk, hx, rfl, rfl, rfl, ho, hb⟩ := hrel
    have HO := Lib.hid ho; have Hb := Lib.hid hb; have Hx := Lib.hid hx
    have HT := Lib.hid (Ht.out.below hb)
    clear ho hb hx HO1 Hb1 HT1
    by_cases hlt : k < h
    · have hd1 : decide ((k : Int) < (h : Int)) = true := decide_eq_true (by omega)
      have hki : (k : Int) < (h : Int) := by omega
      have hk13 : (k : Int) < 13 := by omega
      obtain ⟨A', c', gs, g1, g2, g3, g4⟩ := HT.out.blk
      obtain ⟨_, _, hR⟩ := g4 k (by omega)
      have hc : wr.cell? ⟨bt, 1 + k, none⟩ = some (.slice (some ⟨gs k, 0, none⟩) (2 ^ (h - k)) (2 ^ (h - k))) := by
        rw [block_cell g1, treeC_node _ _ _ _ _ (by omega)]
        unfold nodeV
        rw [if_pos (by omega)]
      have hbl := block_lt g1
      have hx1 : x < 2 * 2 ^ (h - (k + 1)) := by rw [Hx.out]; exact div_lt Hi.out hlt
      have hm : 2 ^ (h - k) = 2 * 2 ^ (h - (k + 1)) := by rw [show h - k = (h - (k + 1)) + 1 by omega, Nat.pow_succ, Nat.mul_comm]
      have hx2 := other_lt hx1
      have hx256 : x < 256 := by
        have := (pow_le8 hh).2
        have h2 : x ≤ i := by rw [Hx.out]; exact Nat.div_le_self _ _
        have := Hi.out
        omega
      have hxo : bits .xor .i64 (x : Int) 1 = (other x : Int) := xor_other ⟨x, hx256⟩
      rw [← hm] at hx2
      have hsn : pathD l i (k + 1) = pathD l i k ++ [(lvl l k).getD (other x) D8.zero] := by rw [pathD_succ, Hx.out]
      have hxn : x / 2 = i / 2 ^ (k + 1) := by rw [Hx.out, Nat.div_div_eq_div_mul, Nat.pow_succ]
      have hx3 : (other x : Int) < ((2 ^ (h - k) : Nat) : Int) := by omega
      have hx4 : (0 : Int) ≤ (other x : Int) := by omega
      clear g1 g2 g3 g4
      generalize 2 ^ (h - k) = m at *
      generalize other x = y at *
      obtain ⟨zf, r0, r1, r2, r3, r4, r5, r6, r7⟩ := hR.at8 hx2
      have hlg := hR.lt
      generalize (lvl l k).getD y D8.zero = q at *
      have Hsn := Lib.hid hsn; have Hxn := Lib.hid hxn; have Hk := Lib.hid hlt
      generalize gs k = gk at *
      clear zf hsn hxn hR hm hx1 hlt
      have HO2 := Lib.hid (HO.out.alloc (.cells #[.int .u8 (q.x0 : Int), .int .u8 (q.x1 : Int), .int .u8 (q.x2 : Int), .int .u8 (q.x3 : Int), .int .u8 (q.x4 : Int), .int .u8 (q.x5 : Int), .int .u8 (q.x6 : Int), .int .u8 (q.x7 : Int)] 31))
      have HRl : Hid (Rd (wr.alloc (.cells #[.int .u8 (q.x0 : Int), .int .u8 (q.x1 : Int), .int .u8 (q.x2 : Int), .int .u8 (q.x3 : Int), .int .u8 (q.x4 : Int), .int .u8 (q.x5 : Int), .int .u8 (q.x6 : Int), .int .u8 (q.x7 : Int)] 31)) (wr.alloc (.cells #[.int .u8 (q.x0 : Int), .int .u8 (q.x1 : Int), .int .u8 (q.x2 : Int), .int .u8 (q.x3 : Int), .int .u8 (q.x4 : Int), .int .u8 (q.x5 : Int), .int .u8 (q.x6 : Int), .int .u8 (q.x7 : Int)] 31)).heap.size 8 (some ⟨wr.heap.size, 0, none⟩) 1 (flatD [q])) := Rd.newA (n := 1) (sz := 8) (xs := flatD [q]) wr 31 #[.int .u8 (q.x0 : Int), .int .u8 (q.x1 : Int), .int .u8 (q.x2 : Int), .int .u8 (q.x3 : Int), .int .u8 (q.x4 : Int), .int .u8 (q.x5 : Int), .int .u8 (q.x6 : Int), .int .u8 (q.x7 : Int)] rfl rfl
      have hbs : w.heap.size ≤ (wr.alloc (.cells #[.int .u8 (q.x0 : Int), .int .u8 (q.x1 : Int), .int .u8 (q.x2 : Int), .int .u8 (q.x3 : Int), .int .u8 (q.x4 : Int), .int .u8 (q.x5 : Int), .int .u8 (q.x6 : Int), .int .u8 (q.x7 : Int)] 31)).heap.size := by rw [World.size_alloc]; have := Hb.out.size; omega
      go_wp2_with (at_builtin; go_must (refine wpList_append_rd (wr.alloc (.cells #[.int .u8 (q.x0 : Int), .int .u8 (q.x1 : Int), .int .u8 (q.x2 : Int), .int .u8 (q.x3 : Int), .int .u8 (q.x4 : Int), .int .u8 (q.x5 : Int), .int .u8 (q.x6 : Int), .int .u8 (q.x7 : Int)] 31)) (by rfl) _ _ 51 (by rfl) w.heap.size 31 i0 (.agg #[.int .u8 0, .int .u8 0, .int .u8 0, .int .u8 0, .int .u8 0, .int .u8 0, .int .u8 0, .int .u8 0]) 8 8 Tryd.underlying51 HI.out rfl (by decide) _ _ _ (by rfl) HO2.out (wr.alloc (.cells #[.int .u8 (q.x0 : Int), .int .u8 (q.x1 : Int), .int .u8 (q.x2 : Int), .int .u8 (q.x3 : Int), .int .u8 (q.x4 : Int), .int .u8 (q.x5 : Int), .int .u8 (q.x6 : Int), .int .u8 (q.x7 : Int)] 31)).heap.size (some ⟨wr.heap.size, 0, none⟩) 1 1 _ (by rfl) HRl.out (flatD_one _) (by omega) (by omega) hbs ?_); intro v4 w4 ho4 hb4; obtain ⟨A4, c4, rfl⟩ := own_form ho4; rw [← flatD_append, ← Hsn.out] at ho4; have HO4 := Lib.hid ho4; have Hb4 := Lib.hid ((Hb.out.alloc Hb.out.size (.cells #[.int .u8 (q.x0 : Int), .int .u8 (q.x1 : Int), .int .u8 (q.x2 : Int), .int .u8 (q.x3 : Int), .int .u8 (q.x4 : Int), .int .u8 (q.x5 : Int), .int .u8 (q.x6 : Int), .int .u8 (q.x7 : Int)] 31)).trans hb4); clear ho4 hb4)
      go_roundw
      case rel => exact ⟨k + 1, x / 2, A4, c4, Hk.out, Hxn.out, by go_num, by go_num, rfl, HO4.out, Hb4.out⟩
      case measure => have := Hk.out; simp [RowKit.intOf]; omega
    · obtain rfl : k = h := by omega
      have hd1 : decide ((k : Int) < (k : Int)) = false := by simp
      clear hlt hk
      go_wp2
      go_ret2
      exact ⟨A, c, rfl, HO.out, Hb.out⟩
end Go.Proofs.YthjpaclcoipocaaDoor
