/- The walk of a tree's New. Condition: a power of two of leaves, at most 256. -/
import Derived.Test.YthjpaclcoipocaaGreatJoinE
import Derived.Laws.ShiftsVarLaws
import Derived.Deep.DeepCutAuto
import Derived.Deep.CutBlock
namespace Go.Proofs.YthjpaclcoipocaaGreat
open Go.RowKit Go.Lib



def noneW : ByteArray := ⟨#[110, 111, 110, 101]⟩
theorem grow_below {w w' : World} (g : Option Nat) (h : Below w.heap.size w w') : w.grownBy w' g := ⟨h.os, h.tape, h.output, h.size, fun k hk _ => h.block k hk⟩
theorem own_keep {w w' : World} {base n sz : Nat} {e : TypeId} {v : Value} {xs : List Value} (h : w.ownsRow base e sz v n xs) (hk : ∀ g, v.ownBlock = some g → w'.heap[g]? = w.heap[g]?) : w'.ownsRow base e sz v n xs := by
  refine ⟨h.1, ?_⟩
  rcases h.2 with h5 | ⟨g, cap, cur, e1, hb, hg, hr⟩
  · exact .inl h5
  · exact .inr ⟨g, cap, cur, e1, hb, (hk g (by rw [e1]; rfl)).trans hg, hr⟩
theorem map_low (l : List D8) : (List.range l.length).map (fun j => lowD (l.getD j D8.zero)) = l.map lowD := by
  apply List.ext_getElem
  · simp
  · intro i h1 h2
    simp at h1
    simp [List.getD_eq_getElem?_getD, List.getElem?_eq_getElem h1]
set_option maxRecDepth 100000 in
set_option maxHeartbeats 2000000 in
theorem tnew_any (A : Option Addr) (n c h : Nat) (l : List D8) (w : World) (hr : Rd w w.heap.size 8 A n (flatD l)) (hok : ∀ d ∈ l, d.ok) (hn : n = 2 ^ h) (hh : h ≤ 8) :
    Calls Tryz.prog 21 #[.slice A n c] w fun e w' => ∃ bt, e = .returned (.tuple #[.pointer (some ⟨bt, 0, none⟩), .int .i64 0]) ∧ TreeAt w' w.heap.size w'.heap.size bt h l ∧ Below w.heap.size w w' := by
  have Hr := Lib.hid hr; have Hok := Lib.hid hok; have Hn := Lib.hid hn
  have hb := pow_le8 hh
  rw [← hn] at hb
  have hh0 : decide ((h : Int) < 0) = false := by simp
  clear hr hok hn
  go_enter Tryz.func21, Tryz.ntmps21
  go_wp2_with fail
  refine (height_any h n w Hn.out hh).mono ?_
  rintro e w' ⟨rfl, rfl⟩
  obtain ⟨w, rfl⟩ : ∃ w : World, w = w' := ⟨_, rfl⟩
  go_wp2_with fail
  refine (sdclone_any l A n c w Hr.out (by omega)).mono ?_
  rintro e w1 ⟨A1, c1, rfl, ho1, hb1⟩
  have HO1 := Lib.hid ho1; have Hb1 := Lib.hid hb1
  clear ho1 hb1
  go_upto_region 5 with fail
  have HB2 : Hid ((w1.alloc (.cells #[.slice A1 n c1, .slice none 0 0, .slice none 0 0, .slice none 0 0, .slice none 0 0, .slice none 0 0, .slice none 0 0, .slice none 0 0, .slice none 0 0, .slice none 0 0, .slice none 0 0, .slice none 0 0, .slice none 0 0, .slice none 0 0] 91)).heap[w1.heap.size]? = some (.cells (treeC (.slice A1 n c1) h (fun _ => 0) 0) 91 (0, 0))) := heap_alloc_new w1 _
  have HO2 := Lib.hid (HO1.out.alloc (.cells #[.slice A1 n c1, .slice none 0 0, .slice none 0 0, .slice none 0 0, .slice none 0 0, .slice none 0 0, .slice none 0 0, .slice none 0 0, .slice none 0 0, .slice none 0 0, .slice none 0 0, .slice none 0 0, .slice none 0 0, .slice none 0 0] 91))
  have Hb2 := Lib.hid (Hb1.out.alloc Hb1.out.size (.cells #[.slice A1 n c1, .slice none 0 0, .slice none 0 0, .slice none 0 0, .slice none 0 0, .slice none 0 0, .slice none 0 0, .slice none 0 0, .slice none 0 0, .slice none 0 0, .slice none 0 0, .slice none 0 0, .slice none 0 0, .slice none 0 0] 91))
  have HN2 : Hid (∀ g, (Value.slice A1 n c1).ownBlock = some g → g < w1.heap.size) := fun g hg => (HO1.out.lt g hg).2
  have hbt := Hb1.out.size
  generalize w1.alloc (.cells #[.slice A1 n c1, .slice none 0 0, .slice none 0 0, .slice none 0 0, .slice none 0 0, .slice none 0 0, .slice none 0 0, .slice none 0 0, .slice none 0 0, .slice none 0 0, .slice none 0 0, .slice none 0 0, .slice none 0 0, .slice none 0 0] 91) = w2 at *
  generalize w1.heap.size = bt at *
  clear HO1 Hb1
  have hsh : IntKind.i64.wrap ((2 : Int) ^ h) = (n : Int) := by
    have h2 : ((2 ^ h : Nat) : Int) = (2 : Int) ^ h := by simp
    rw [IntKind.wrap_i64, ← h2, ← Hn.out]
    omega
  have hmk := make_dig n (by omega) w2.drew
  have HB3 : Hid ((newD w2.drew n).heap[bt]? = some (.cells (treeC (.slice A1 n c1) h (fun _ => 0) 0) 91 (0, 0))) := newD_block (w := w2.drew) HB2.out
  have HD3 : Hid (DRow (newD w2.drew n) w2.heap.size n (List.replicate n D8.zero)) := newD_row w2.drew n
  have HO3 : Hid (World.ownsRow (newD w2.drew n) w.heap.size 30 8 (.slice A1 n c1) n (flatD l)) := own_below (own_below HO2.out (Below.refl _ _).drew) (newD_below w2.drew n)
  have Hb3 := Lib.hid (Hb2.out.drew.trans ((newD_below w2.drew n).mono Hb2.out.size))
  have hl2 : bt < w2.heap.size := block_lt HB2.out
  have hl3 := block_lt HB3.out
  have hfz := block_free HB3.out
  have hc1 : (newD w2.drew n).cell? ⟨bt, 1, none⟩ = some (.slice none 0 0) := by rw [block_cell HB3.out]; rfl
  clear HB2 HO2 Hb2
  have h4 := Joins.block_setCell (i := 1) HB3.out (.slice (some ⟨w2.heap.size, 0, none⟩) n n)
  have e4 := treeC_set (.slice A1 n c1) h (fun _ => 0) 0 w2.heap.size (by decide)
  rw [Nat.sub_zero, ← Hn.out] at e4
  have g4 := grown_set1 (newD w2.drew n) bt 1 (.slice (some ⟨w2.heap.size, 0, none⟩) n n)
  have hd4 := HD3.out.grown g4 (by intro e; injection e with e; omega)
  have ho4 := World.ownsRow.kept HO3.out g4 (.inr (by intro e; have := HN2.out bt e; omega))
  have hb4 := Hb3.out.grown g4 Hb3.out.size (fun q hq => by injection hq with hq; omega)
  rw [show (1 : Nat) = 1 + 0 from rfl, e4] at h4
  have HB4 := Lib.hid h4; have HD4 := Lib.hid hd4; have HO4 := Lib.hid ho4; have Hb4 := Lib.hid hb4
  clear h4 e4 g4 hd4 ho4 hb4 HB3 HD3 HO3 Hb3
  go_wp2
  go_region
  all_goals
    generalize hw4 : (newD w2.drew n).setCell ⟨bt, 1, none⟩ (.slice (some ⟨w2.heap.size, 0, none⟩) n n) = w4 at *
    generalize w2.heap.size = g0 at *
    clear hw4 hmk hc1 hfz hl3 hsh
    go_wp2_with fail
    refine (word_any D8.zero noneW w4 D8.zero_ok (by decide)).mono ?_
    rintro e w5 ⟨rfl, hb⟩
    generalize hashWord D8.zero (wordB noneW) = nz at *
    have HB5 := Lib.hid (block_below HB4.out hb (block_lt HB4.out)); have HD5 := Lib.hid (HD4.out.below hb); have HO5 := Lib.hid (own_below HO4.out hb); have Hb5 := Lib.hid (Hb4.out.trans (hb.mono Hb4.out.size))
    clear hb HB4 HD4 HO4 Hb4
    go_upto_region 7 with fail
    have HB6 := Lib.hid (block_alloc HB5.out (.cells #[.int .u8 (nz.x0 : Int), .int .u8 (nz.x1 : Int), .int .u8 (nz.x2 : Int), .int .u8 (nz.x3 : Int), .int .u8 (nz.x4 : Int), .int .u8 (nz.x5 : Int), .int .u8 (nz.x6 : Int), .int .u8 (nz.x7 : Int)] 30)); have HD6 := Lib.hid (HD5.out.below (h_one w5 (.cells #[.int .u8 (nz.x0 : Int), .int .u8 (nz.x1 : Int), .int .u8 (nz.x2 : Int), .int .u8 (nz.x3 : Int), .int .u8 (nz.x4 : Int), .int .u8 (nz.x5 : Int), .int .u8 (nz.x6 : Int), .int .u8 (nz.x7 : Int)] 30))); have HO6 := Lib.hid (HO5.out.alloc (.cells #[.int .u8 (nz.x0 : Int), .int .u8 (nz.x1 : Int), .int .u8 (nz.x2 : Int), .int .u8 (nz.x3 : Int), .int .u8 (nz.x4 : Int), .int .u8 (nz.x5 : Int), .int .u8 (nz.x6 : Int), .int .u8 (nz.x7 : Int)] 30)); have Hb6 := Lib.hid (Hb5.out.alloc Hb5.out.size (.cells #[.int .u8 (nz.x0 : Int), .int .u8 (nz.x1 : Int), .int .u8 (nz.x2 : Int), .int .u8 (nz.x3 : Int), .int .u8 (nz.x4 : Int), .int .u8 (nz.x5 : Int), .int .u8 (nz.x6 : Int), .int .u8 (nz.x7 : Int)] 30))
    generalize w5.alloc (.cells #[.int .u8 (nz.x0 : Int), .int .u8 (nz.x1 : Int), .int .u8 (nz.x2 : Int), .int .u8 (nz.x3 : Int), .int .u8 (nz.x4 : Int), .int .u8 (nz.x5 : Int), .int .u8 (nz.x6 : Int), .int .u8 (nz.x7 : Int)] 30) = w6 at *
    clear HB5 HD5 HO5 Hb5
    have hc6 : w6.cell? ⟨bt, 1, none⟩ = some (.slice (some ⟨g0, 0, none⟩) n n) := by
      rw [block_cell HB6.out, show (1 : Nat) = 1 + 0 from rfl, treeC_node _ _ _ _ _ (by decide)]
      unfold nodeV
      rw [if_pos (by decide), Nat.sub_zero, ← Hn.out]
      simp
    have hl6 := block_lt HB6.out
    go_upto_block 0 with fail
    go_cut [] (fun wx => w6.grownBy wx (some g0) ∧ DRow wx g0 n ((List.range n).map (fun j => lowD (l.getD j D8.zero))))
    case first =>
      go_wp2
      go_loopw [34] (fun i wr => ∃ k : Nat, k ≤ n ∧ i = .int .i64 (k : Int) ∧ w6.grownBy wr (some g0) ∧ DRow wr g0 n (rowK (fun j => lowD (l.getD j D8.zero)) k n)) (fun i _ => n - (RowKit.intOf i).toNat)
      case atStart => exact ⟨0, by omega, rfl, World.grownBy.refl _ _, by rw [rowK_zero]; exact HD6.out⟩
      case round =>
        obtain ⟨k, hk, rfl, hg, hd⟩ := hrel
        have HG := Lib.hid hg; have HD := Lib.hid hd
        clear hg hd
        by_cases hlt : k < n
        · have hd1 : decide ((k : Int) < (n : Int)) = true := decide_eq_true (by omega)
          have hki : (k : Int) < (n : Int) := by omega
          have Hk := Lib.hid hlt
          have Hb := Lib.hid (Hb6.out.grown HG.out Hb6.out.size (fun q hq => by injection hq with hq; omega))
          obtain ⟨ba, oa, hA, hbB, x0, x1, x2, x3, x4, x5, x6, x7⟩ := (Hr.out.below Hb.out (Nat.le_refl _)).di8 hlt
          subst hA
          have Hset : Hid ((rowK (fun j => lowD (l.getD j D8.zero)) k n).set k (lowD (l.getD k D8.zero)) = rowK (fun j => lowD (l.getD j D8.zero)) (k + 1) n) := rowK_set _ k n
          have Hq := Lib.hid (getD_ok Hok.out k)
          have hbl : wr.heap[bt]? = w6.heap[bt]? := HG.out.block bt hl6 (by intro e; injection e with e; omega)
          have hcr : wr.cell? ⟨bt, 1, none⟩ = some (.slice (some ⟨g0, 0, none⟩) n n) := (World.cell?_of_block hbl).trans hc6
          have hlw : w.heap.size ≤ wr.heap.size := Hb.out.size
          have hlb : bt < wr.heap.size := Nat.lt_of_lt_of_le hl6 HG.out.size
          generalize l.getD k D8.zero = q at *
          go_upto_region 11 with fail
          have hS : wr.drew.cell? ⟨bt, 1, none⟩ = some (.slice (some ⟨g0, 0, none⟩) n n) ∧ (Instr.loadAt 30 (.pointer (some ⟨ba, oa + k * 8, none⟩))).run Tryz.prog wr.drew = .ok (.agg #[.int .u8 (q.x0 : Int), .int .u8 (q.x1 : Int), .int .u8 (q.x2 : Int), .int .u8 (q.x3 : Int), .int .u8 (q.x4 : Int), .int .u8 (q.x5 : Int), .int .u8 (q.x6 : Int), .int .u8 (q.x7 : Int)]) wr.drew := ⟨hcr, by go_simp⟩
          refine wp_region_held_drew (S := fun w' => w'.cell? ⟨bt, 1, none⟩ = some (.slice (some ⟨g0, 0, none⟩) n n) ∧ (Instr.loadAt 30 (.pointer (some ⟨ba, oa + k * 8, none⟩))).run Tryz.prog w' = .ok (.agg #[.int .u8 (q.x0 : Int), .int .u8 (q.x1 : Int), .int .u8 (q.x2 : Int), .int .u8 (q.x3 : Int), .int .u8 (q.x4 : Int), .int .u8 (q.x5 : Int), .int .u8 (q.x6 : Int), .int .u8 (q.x7 : Int)]) w') (by kernel_rfl) hS (fun hHeld => ?_)
          rw [show Array.replicate _ false = (#[false, false, false, false, false, false, false, false, false, false, false, false, false] : Array Bool) from rfl]
          refine takeH 0 (some 41) (v := ?_) rfl (by kernel_rfl) (by kernel_rfl) (by kernel_rfl) (by kernel_rfl) (fun _ _ _ h => h) (Or.inl ⟨by kernel_rfl, ?hy⟩) (by assumption) ?_
          case hy =>
            intro w' hSw
            clear hSw
            first
              | (go_simp; done)
              | (go_simp; with_reducible rfl)
          simp only [Act.put, List.setIfInBounds_toArray, List.set_cons_zero, List.set_cons_succ]
          refine takeH 1 (some 42) (v := ?_) rfl (by kernel_rfl) (by kernel_rfl) (by kernel_rfl) (by kernel_rfl) (fun _ _ _ h => h) (Or.inl ⟨by kernel_rfl, ?hy⟩) (by assumption) ?_
          case hy =>
            intro w' hSw
            clear hSw
            first
              | (go_simp; done)
              | (go_simp; with_reducible rfl)
          simp only [Act.put, List.setIfInBounds_toArray, List.set_cons_zero, List.set_cons_succ]
          refine takeH 2 (some 43) (v := ?_) rfl (by kernel_rfl) (by kernel_rfl) (by kernel_rfl) (by kernel_rfl) (fun _ _ _ h => h) (Or.inl ⟨by kernel_rfl, ?hy⟩) (by assumption) ?_
          case hy =>
            intro w' hSw
            clear hSw
            first
              | (go_simp; done)
              | (go_simp; with_reducible rfl)
          simp only [Act.put, List.setIfInBounds_toArray, List.set_cons_zero, List.set_cons_succ]
          refine takeH 3 (some 44) (v := ?_) rfl (by kernel_rfl) (by kernel_rfl) (by kernel_rfl) (by kernel_rfl) (fun _ _ _ h => h) (Or.inl ⟨by kernel_rfl, ?hy⟩) (by assumption) ?_
          case hy =>
            intro w' hSw
            clear hSw
            first
              | (go_simp; done)
              | (go_simp; with_reducible rfl)
          simp only [Act.put, List.setIfInBounds_toArray, List.set_cons_zero, List.set_cons_succ]
          refine takeH 4 (some 45) (v := ?_) rfl (by kernel_rfl) (by kernel_rfl) (by kernel_rfl) (by kernel_rfl) (fun _ _ _ h => h) (Or.inl ⟨by kernel_rfl, ?hy⟩) (by assumption) ?_
          case hy =>
            intro w' hSw
            try dsimp only at hSw
            obtain ⟨l1, l2⟩ := hSw
            first
              | (go_simp; done)
              | (go_simp; with_reducible rfl)
          simp only [Act.put, List.setIfInBounds_toArray, List.set_cons_zero, List.set_cons_succ]
          refine takeH 5 (some 46) (v := ?_) rfl (by kernel_rfl) (by kernel_rfl) (by kernel_rfl) (by kernel_rfl) (fun _ _ _ h => h) (Or.inl ⟨by kernel_rfl, ?hy⟩) (by assumption) ?_
          case hy =>
            intro w' hSw
            clear hSw
            first
              | (go_simp; done)
              | (go_simp; with_reducible rfl)
          simp only [Act.put, List.setIfInBounds_toArray, List.set_cons_zero, List.set_cons_succ]
          refine takeH 6 (some 47) (v := ?_) rfl (by kernel_rfl) (by kernel_rfl) (by kernel_rfl) (by kernel_rfl) (fun _ _ _ h => h) (Or.inl ⟨by kernel_rfl, ?hy⟩) (by assumption) ?_
          case hy =>
            intro w' hSw
            clear hSw
            first
              | (go_simp; done)
              | (go_simp; with_reducible rfl)
          simp only [Act.put, List.setIfInBounds_toArray, List.set_cons_zero, List.set_cons_succ]
          refine takeH 7 (some 48) (v := ?_) rfl (by kernel_rfl) (by kernel_rfl) (by kernel_rfl) (by kernel_rfl) (fun _ _ _ h => h) (Or.inl ⟨by kernel_rfl, ?hy⟩) (by assumption) ?_
          case hy =>
            intro w' hSw
            clear hSw
            first
              | (go_simp; done)
              | (go_simp; with_reducible rfl)
          simp only [Act.put, List.setIfInBounds_toArray, List.set_cons_zero, List.set_cons_succ]
          refine takeH 8 (some 49) (v := ?_) rfl (by kernel_rfl) (by kernel_rfl) (by kernel_rfl) (by kernel_rfl) (fun _ _ _ h => h) (Or.inl ⟨by kernel_rfl, ?hy⟩) (by assumption) ?_
          case hy =>
            intro w' hSw
            clear hSw
            first
              | (go_simp; done)
              | (go_simp; with_reducible rfl)
          simp only [Act.put, List.setIfInBounds_toArray, List.set_cons_zero, List.set_cons_succ]
          refine takeH 9 (some 50) (v := .agg #[.int .u8 (q.x0 : Int), .int .u8 (q.x1 : Int), .int .u8 (q.x2 : Int), .int .u8 (q.x3 : Int), .int .u8 (q.x4 : Int), .int .u8 (q.x5 : Int), .int .u8 (q.x6 : Int), .int .u8 (q.x7 : Int)]) rfl (by kernel_rfl) (by kernel_rfl) (by kernel_rfl) (by kernel_rfl) (fun _ _ _ h => h) (Or.inl ⟨by kernel_rfl, ?hy⟩) (by assumption) ?_
          case hy =>
            intro w' hSw
            try dsimp only at hSw
            obtain ⟨l1, l2⟩ := hSw
            simp [execOp, Act.eval, l2, Result.andThen]
          simp only [Act.put, List.setIfInBounds_toArray, List.set_cons_zero, List.set_cons_succ]
          have hq := (Below.refl wr.heap.size wr).drew
          refine wpAnyH_ready (rs := [10]) (by kernel_rfl) (by simp) ?_
          refine AllReadyH.cons rfl (fun K hK => ?_) AllReadyH.nil
          rw [if_pos (by kernel_rfl)]
          go_simp
          refine (low_any q wr.drew Hq.out).mono ?_
          rintro e v1 ⟨rfl, hb⟩
          have hq1 := hq.trans hb
          have HD1 := Lib.hid (HD.out.below hq1)
          have HG1 := Lib.hid (HG.out.trans (grow_below (some g0) hq1))
          have HSS : Hid (∀ u, wr.grownBy u (some g0) → u.cell? ⟨bt, 1, none⟩ = some (.slice (some ⟨g0, 0, none⟩) n n) ∧ (Instr.loadAt 30 (.pointer (some ⟨ba, oa + k * 8, none⟩))).run Tryz.prog u = .ok (.agg #[.int .u8 (q.x0 : Int), .int .u8 (q.x1 : Int), .int .u8 (q.x2 : Int), .int .u8 (q.x3 : Int), .int .u8 (q.x4 : Int), .int .u8 (q.x5 : Int), .int .u8 (q.x6 : Int), .int .u8 (q.x7 : Int)]) u) := fun u hu => by
            have e1 : u.heap[bt]? = wr.heap[bt]? := hu.block bt hlb (by intro e; injection e with e; omega)
            have e2 : ∀ o, u.cell? ⟨ba, o, none⟩ = wr.cell? ⟨ba, o, none⟩ := fun o => World.cell?_of_block (hu.block ba (by omega) (by intro e; injection e with e; omega))
            have y0 := (e2 (oa + k * 8)).trans x0; have y1 := (e2 (oa + k * 8 + 1)).trans x1; have y2 := (e2 (oa + k * 8 + 2)).trans x2; have y3 := (e2 (oa + k * 8 + 3)).trans x3; have y4 := (e2 (oa + k * 8 + 4)).trans x4; have y5 := (e2 (oa + k * 8 + 5)).trans x5; have y6 := (e2 (oa + k * 8 + 6)).trans x6; have y7 := (e2 (oa + k * 8 + 7)).trans x7
            have hba : ba < u.heap.size := by have := hu.size; omega
            clear e2 x0 x1 x2 x3 x4 x5 x6 x7 hS hHeld
            exact ⟨(World.cell?_of_block e1).trans hcr, by go_simp⟩
          refine hK.out _ _ (HSS.out v1 (grow_below _ hq1)) (fun _ => ?_)
          have Hq1 := Lib.hid hq1
          clear hK K hb hq hq1
          simp only [List.setIfInBounds_toArray, List.set_cons_zero, List.set_cons_succ]
          generalize hp : lowD q = p at *
          have Hp := Lib.hid hp
          clear hp x0 x1 x2 x3 x4 x5 x6 x7
          refine takeH 11 (some 52) (v := ?_) rfl (by kernel_rfl) (by kernel_rfl) (by kernel_rfl) (by kernel_rfl) (fun _ _ _ h => h) (Or.inl ⟨by kernel_rfl, ?hy⟩) (by assumption) ?_
          case hy =>
            intro w' hSw
            clear hSw
            first
              | (go_simp; done)
              | (go_simp; with_reducible rfl)
          simp only [Act.put, List.setIfInBounds_toArray, List.set_cons_zero, List.set_cons_succ]
          obtain ⟨zf, r0, r1, r2, r3, r4, r5, r6, r7⟩ := HD1.out.at8 Hk.out
          obtain ⟨h3, g3⟩ := HD1.out.setR Hk.out p
          rw [Hset.out] at h3
          unfold set8R at h3 g3
          have hlg := HD1.out.lt
          refine wpAnyH_ready (rs := [12]) (by kernel_rfl) (by simp) ?_
          refine AllReadyH.cons rfl (fun K hK => ?_) AllReadyH.nil
          rw [if_pos (by kernel_rfl)]
          go_simp
          generalize ((((((((v1.setCell ⟨g0, k * 8, none⟩ (.int .u8 (p.x0 : Int))).setCell ⟨g0, k * 8 + 1, none⟩ (.int .u8 (p.x1 : Int))).setCell ⟨g0, k * 8 + 2, none⟩ (.int .u8 (p.x2 : Int))).setCell ⟨g0, k * 8 + 3, none⟩ (.int .u8 (p.x3 : Int))).setCell ⟨g0, k * 8 + 4, none⟩ (.int .u8 (p.x4 : Int))).setCell ⟨g0, k * 8 + 5, none⟩ (.int .u8 (p.x5 : Int))).setCell ⟨g0, k * 8 + 6, none⟩ (.int .u8 (p.x6 : Int))).setCell ⟨g0, k * 8 + 7, none⟩ (.int .u8 (p.x7 : Int))) = v2 at *
          have HD2 := Lib.hid h3; have HG2 := Lib.hid (HG1.out.trans g3)
          refine hK.out _ _ (HSS.out v2 ((grow_below _ Hq1.out).trans g3)) (fun _ => ?_)
          clear hK K h3 g3
          refine wpAnyH_done (by kernel_rfl) ?_ _
          go_wp2
          go_roundw
          case rel => exact ⟨k + 1, Hk.out, by go_num, HG2.out, HD2.out⟩
          case measure => have := Hk.out; simp [RowKit.intOf]; omega
        · obtain rfl : k = n := by omega
          have hd1 : decide ((k : Int) < (k : Int)) = false := by simp
          rw [rowK_full] at HD
          clear hlt hk
          go_wp2
          go_meet
          exact ⟨HG.out, HD.out⟩
    case rest =>
      obtain ⟨hg7, hd7⟩ := hcut
      obtain ⟨w7, rfl⟩ : ∃ w7 : World, w7 = wc := ⟨_, rfl⟩
      have HL7 : Hid (DRow w7 g0 (2 ^ (h - 0)) (lvl l 0)) := by
        show DRow _ _ _ _
        rw [Nat.sub_zero, ← Hn.out]
        have e : lvl l 0 = (List.range n).map (fun j => lowD (l.getD j D8.zero)) := by
          show l.map lowD = _
          rw [← Hr.out.dlenD, map_low]
        rw [e]; exact hd7
      have HB7 : Hid (w7.heap[bt]? = some (.cells (treeC (.slice A1 n c1) h (fun j => if j = 0 then g0 else 0) (0 + 1)) 91 (0, 0))) := (hg7.block bt hl6 (by intro e; injection e with e; omega)).trans HB6.out
      have HO7 := Lib.hid (World.ownsRow.kept HO6.out hg7 (.inr (by intro e; have := HN2.out g0 e; omega)))
      have Hb7 := Lib.hid (Hb6.out.grown hg7 Hb6.out.size (fun q hq => by injection hq with hq; omega))
      clear hg7 hd7 HB6 HD6 HO6 Hb6 hc6 hl6
      go_wp2
      go_loopw [63] (fun i wr => ∃ (q : Nat) (gs : Nat → Nat), q ≤ h ∧ i = .int .i64 (q : Int) ∧ wr.heap[bt]? = some (.cells (treeC (.slice A1 n c1) h gs (q + 1)) 91 (0, 0)) ∧ (∀ j, j ≤ q → g0 ≤ gs j ∧ gs j < wr.heap.size ∧ DRow wr (gs j) (2 ^ (h - j)) (lvl l j)) ∧ Below bt w7 wr) (fun i _ => h - (RowKit.intOf i).toNat)
      case atStart => exact ⟨0, (fun j => if j = 0 then g0 else 0), by omega, rfl, HB7.out, fun j hj => by
        obtain rfl : j = 0 := by omega
        exact ⟨Nat.le_refl _, HL7.out.lt, HL7.out⟩, Below.refl _ _⟩
      case round =>
        obtain ⟨q, gs, hq, rfl, hB, hR, hbw⟩ := hrel
        obtain ⟨wo, rfl⟩ : ∃ wo : World, wo = wr := ⟨_, rfl⟩
        have HB := Lib.hid hB; have HR := Lib.hid hR; have Hbw := Lib.hid hbw
        clear hB hR hbw
        by_cases hlt : q < h
        · have hd1 : decide ((q : Int) < (h : Int)) = true := decide_eq_true (by omega)
          have hq13 : (q : Int) < 13 := by omega
          have hq12 : (q : Int) + 1 < 13 := by omega
          have hq0 : (0 : Int) ≤ (q : Int) + 1 := by omega
          have hm2 : 2 ^ (h - q) = 2 * 2 ^ (h - (q + 1)) := by rw [show h - q = (h - (q + 1)) + 1 by omega, Nat.pow_succ, Nat.mul_comm]
          have hm4 : 2 ^ (h - (q + 1)) ≤ 256 := (pow_le8 (by omega)).2
          obtain ⟨m, hm⟩ : ∃ m, m = 2 ^ (h - (q + 1)) := ⟨_, rfl⟩
          rw [← hm] at hm2 hm4
          have hdq : ((2 * m : Nat) : Int) / 2 = (m : Int) := by omega
          have hc0 : wo.cell? ⟨bt, 1 + q, none⟩ = some (.slice (some ⟨gs q, 0, none⟩) (2 * m) (2 * m)) := by
            rw [block_cell HB.out, treeC_node _ _ _ _ _ (by omega)]
            unfold nodeV
            rw [if_pos (by omega), hm2]
          have Hk := Lib.hid hlt; have Hm := Lib.hid hm
          have hlo := block_lt HB.out
          have HB3 : Hid ((newD wo.drew m).heap[bt]? = some (.cells (treeC (.slice A1 n c1) h gs (q + 1)) 91 (0, 0))) := newD_block (w := wo.drew) HB.out
          have hmk := make_dig m (by omega) wo.drew
          have hfz := block_free HB3.out
          have hl3 := block_lt HB3.out
          have hc1 : (newD wo.drew m).cell? ⟨bt, 1 + (q + 1), none⟩ = some (.slice none 0 0) := by
            rw [block_cell HB3.out, treeC_node _ _ _ _ _ (by omega)]
            unfold nodeV
            rw [if_neg (by omega)]
          have h4 := Joins.block_setCell (i := 1 + (q + 1)) HB3.out (.slice (some ⟨wo.heap.size, 0, none⟩) m m)
          have e4 := treeC_set (.slice A1 n c1) h gs (q + 1) wo.heap.size (by omega)
          rw [← hm] at e4
          rw [e4] at h4
          have g4 := grown_set1 (newD wo.drew m) bt (1 + (q + 1)) (.slice (some ⟨wo.heap.size, 0, none⟩) m m)
          have hz : w7.heap.size ≤ wo.heap.size := Hbw.out.size
          have hq3 : Below wo.heap.size wo (newD wo.drew m) := (Below.refl _ _).drew.trans (newD_below wo.drew m)
          have hd4 := (newD_row wo.drew m).grown g4 (by intro e; injection e with e; have : bt < wo.heap.size := hlo; have e2 : bt = wo.heap.size := e; omega)
          have HD4 : Hid (DRow ((newD wo.drew m).setCell ⟨bt, 1 + (q + 1), none⟩ (.slice (some ⟨wo.heap.size, 0, none⟩) m m)) wo.heap.size m (List.replicate m D8.zero)) := hd4
          have HB4 := Lib.hid h4
          have HR4 : Hid (∀ j, j ≤ q → DRow ((newD wo.drew m).setCell ⟨bt, 1 + (q + 1), none⟩ (.slice (some ⟨wo.heap.size, 0, none⟩) m m)) (gs j) (2 ^ (h - j)) (lvl l j)) := fun j hj => by
            obtain ⟨a1, a2, a3⟩ := HR.out j hj
            exact (a3.below hq3).grown g4 (by intro e; injection e with e; omega)
          have HGs : Hid (∀ j, j ≤ q → g0 ≤ gs j ∧ gs j < wo.heap.size) := fun j hj => ⟨(HR.out j hj).1, (HR.out j hj).2.1⟩
          have Hb4 : Hid (Below bt w7 ((newD wo.drew m).setCell ⟨bt, 1 + (q + 1), none⟩ (.slice (some ⟨wo.heap.size, 0, none⟩) m m))) := (Hbw.out.trans (hq3.mono (by omega))).grown g4 (by have := hq3.size; omega) (fun q hq => by injection hq with hq; omega)
          have Hz4 : Hid (wo.heap.size < ((newD wo.drew m).setCell ⟨bt, 1 + (q + 1), none⟩ (.slice (some ⟨wo.heap.size, 0, none⟩) m m)).heap.size) := HD4.out.lt
          clear h4 e4 g4 hq3 hd4 HB3 HB HR Hbw hm hm2
          go_wp2
          go_region
          all_goals
            generalize hwS : (newD wo.drew m).setCell ⟨bt, 1 + (q + 1), none⟩ (.slice (some ⟨wo.heap.size, 0, none⟩) m m) = wS at *
            generalize wo.heap.size = g' at *
            clear hwS hmk hc1 hc0 hfz hl3
            have hcS0 : wS.cell? ⟨bt, 1 + q, none⟩ = some (.slice (some ⟨gs q, 0, none⟩) (2 * m) (2 * m)) := by
              rw [block_cell HB4.out, treeC_node _ _ _ _ _ (by omega)]
              unfold nodeV
              rw [if_pos (by omega), show h - q = (h - (q + 1)) + 1 by have := Hk.out; omega, Nat.pow_succ, Nat.mul_comm, ← Hm.out]
              simp
            have hcS1 : wS.cell? ⟨bt, 1 + (q + 1), none⟩ = some (.slice (some ⟨g', 0, none⟩) m m) := by
              rw [block_cell HB4.out, treeC_node _ _ _ _ _ (by omega)]
              unfold nodeV
              rw [if_pos (by omega), ← Hm.out]
              simp
            have hlS := block_lt HB4.out
            go_wp2
            go_loopw [89] (fun i wr => ∃ k : Nat, k ≤ m ∧ i = .int .i64 (k : Int) ∧ wS.grownBy wr (some g') ∧ DRow wr g' m (rowK (fun i => hashTwo ((lvl l q).getD (2 * i) D8.zero) ((lvl l q).getD (2 * i + 1) D8.zero)) k m)) (fun i _ => m - (RowKit.intOf i).toNat)
            case atStart => exact ⟨0, by omega, rfl, World.grownBy.refl _ _, by rw [rowK_zero]; exact HD4.out⟩
            case round =>
              obtain ⟨k, hk, rfl, hg, hd⟩ := hrel
              have HG := Lib.hid hg; have HD := Lib.hid hd
              clear hg hd
              by_cases hlt2 : k < m
              · have hd2 : decide ((k : Int) < (m : Int)) = true := decide_eq_true (by omega)
                have hki : (k : Int) < (m : Int) := by omega
                have Hkm := Lib.hid hlt2
                have hne : gs q ≠ g' := by have := (HGs.out q (Nat.le_refl _)).2; omega
                have hbl : wr.heap[bt]? = wS.heap[bt]? := HG.out.block bt hlS (by intro e; injection e with e; omega)
                have hj := join_any bt q k m (gs q) g' (lvl l q) _ wr ((World.cell?_of_block hbl).trans hcS0) ((World.cell?_of_block hbl).trans hcS1) (by omega) (Nat.lt_of_lt_of_le hlS HG.out.size) (by
                  have := (HR4.out q (Nat.le_refl _)).grown HG.out (by intro e; injection e with e; exact hne e.symm)
                  rw [show h - q = (h - (q + 1)) + 1 by have := Hk.out; omega, Nat.pow_succ, Nat.mul_comm, ← Hm.out] at this
                  exact this) HD.out hlt2 (by omega) (lvl_ok l q) hne (by omega)
                have hset := rowK_set (fun i => hashTwo ((lvl l q).getD (2 * i) D8.zero) ((lvl l q).getD (2 * i + 1) D8.zero)) k m
                rw [hset] at hj
                have Hj := Lib.hid hj
                clear hj hset hlt2
                go_wp2_with fail
                refine Hj.out.mono ?_
                rintro e w9 ⟨rfl, hd9, hg9⟩
                have HD9 := Lib.hid hd9; have HG9 := Lib.hid (HG.out.trans hg9)
                clear hd9 hg9 Hj HG HD
                go_wp2
                go_roundw
                case rel => exact ⟨k + 1, Hkm.out, by go_num, HG9.out, HD9.out⟩
                case measure => have := Hkm.out; simp [RowKit.intOf]; omega
              · obtain rfl : k = m := by omega
                have hd2 : decide ((k : Int) < (k : Int)) = false := by simp
                have hlen : (lvl l q).length / 2 = k := by
                  rw [lvl_len (by rw [Hr.out.dlenD, Hn.out]) q (by have := Hk.out; omega), show h - q = (h - (q + 1)) + 1 by have := Hk.out; omega, Nat.pow_succ, Hm.out]
                  omega
                have hfull : rowK (fun i => hashTwo ((lvl l q).getD (2 * i) D8.zero) ((lvl l q).getD (2 * i + 1) D8.zero)) k k = lvl l (q + 1) := by
                  rw [rowK_full]
                  show _ = (List.range ((lvl l q).length / 2)).map _
                  rw [hlen]
                rw [hfull] at HD
                have hg9 := HG.out
                have hd9 := HD.out
                clear hlt2 hk hlen hfull HG HD
                clear hm4 hdq
                have HB9 := Lib.hid ((hg9.block bt hlS (by intro e; injection e with e; omega)).trans HB4.out)
                have hz9 : g' < wr.heap.size := Nat.lt_of_lt_of_le Hz4.out hg9.size
                have HR9 : Hid (∀ j, j ≤ q + 1 → g0 ≤ (if j = q + 1 then g' else gs j) ∧ (if j = q + 1 then g' else gs j) < wr.heap.size ∧ DRow wr (if j = q + 1 then g' else gs j) (2 ^ (h - j)) (lvl l j)) := fun j hj => by
                  by_cases hjq : j = q + 1
                  · subst hjq
                    rw [if_pos rfl, ← Hm.out]
                    exact ⟨by have := (HGs.out 0 (by omega)); omega, hz9, hd9⟩
                  · have hjl : j ≤ q := by omega
                    have h1 := HGs.out j hjl
                    rw [if_neg hjq]
                    exact ⟨h1.1, by omega, (HR4.out j hjl).grown hg9 (by intro e; injection e with e; omega)⟩
                have Hb9 := Lib.hid (Hb4.out.grown hg9 (by have := HB7.out; have := block_lt this; omega) (fun q hq => by injection hq with hq; omega))
                have HQ := Lib.hid hd1
                clear hg9 hd9 HB4 HR4 Hb4 HD4 hcS0 hcS1
                go_wp2
                go_roundw
                case rel => exact ⟨q + 1, (fun j => if j = q + 1 then g' else gs j), Hk.out, by go_num, HB9.out, HR9.out, Hb9.out⟩
                case measure => have := Hk.out; simp [RowKit.intOf]; omega
        · obtain rfl : q = h := by omega
          have hd1 : decide ((q : Int) < (q : Int)) = false := by simp
          clear hlt hq
          go_wp2
          go_ret2
          have e := Hn.out
          subst e
          have hs7 := Hb7.out.size
          have hsw := Hbw.out.size
          have hlo := block_lt HB.out
          refine ⟨bt, rfl, ⟨hh, Hr.out.dlenD, Hok.out, ⟨A1, c1, gs, HB.out, own_keep HO7.out (fun g hg => Hbw.out.block g (HN2.out g hg)), fun g hg => Nat.lt_of_lt_of_le (HN2.out g hg) (by omega), fun j hj => ⟨by have := (HR.out j hj).1; omega, (HR.out j hj).2.1, (HR.out j hj).2.2⟩⟩, hbt, block_lt HB.out, Nat.le_refl _⟩, Hb7.out.trans (Hbw.out.mono hbt)⟩
end Go.Proofs.YthjpaclcoipocaaGreat
