/- A tree of digests, plain and in memory: the walks of low, Len, has, height, join. Condition: at most 256 leaves. A tree in memory; the walks of Len, has, height, Path. Condition: at most 256 leaves. -/
import Derived.Test.YthjpaclcoipocaaGreatKeL
import Derived.Test.YthjpaclcoipocaaGreatKeS
namespace Go.Proofs.YthjpaclcoipocaaGreat
open Go.RowKit Go.Lib



def leafW : ByteArray := ⟨#[108, 101, 97, 102]⟩
def lowD (d : D8) : D8 := hashWord d (wordB leafW)
/-- The levels above leaves, from below. -/
def lvl (l : List D8) : Nat → List D8
  | 0 => l.map lowD
  | k + 1 => (List.range ((lvl l k).length / 2)).map (fun i => hashTwo ((lvl l k).getD (2 * i) D8.zero) ((lvl l k).getD (2 * i + 1) D8.zero))
theorem lvl_ok (l : List D8) : ∀ k, ∀ d ∈ lvl l k, d.ok := by
  intro k d hd
  cases k with
  | zero => obtain ⟨x, _, rfl⟩ := List.mem_map.1 hd; exact hs_ok _
  | succ k => obtain ⟨x, _, rfl⟩ := List.mem_map.1 hd; exact hs_ok _
theorem lvl_len {l : List D8} {h : Nat} (hl : l.length = 2 ^ h) : ∀ k, k ≤ h → (lvl l k).length = 2 ^ (h - k) := by
  intro k
  induction k with
  | zero => intro _; simp [lvl, hl]
  | succ k ih =>
    intro hk
    have h1 := ih (by omega)
    simp only [lvl, List.length_map, List.length_range, h1]
    rw [show h - k = (h - (k + 1)) + 1 by omega, Nat.pow_succ]
    omega
set_option maxRecDepth 100000 in
set_option maxHeartbeats 2000000 in
theorem low_any (d : D8) (w : World) (hd : d.ok) :
    Calls Tryz.prog 38 #[.agg #[.int .u8 (d.x0 : Int), .int .u8 (d.x1 : Int), .int .u8 (d.x2 : Int), .int .u8 (d.x3 : Int), .int .u8 (d.x4 : Int), .int .u8 (d.x5 : Int), .int .u8 (d.x6 : Int), .int .u8 (d.x7 : Int)]] w fun e w' => e = .returned (.agg #[.int .u8 ((lowD d).x0 : Int), .int .u8 ((lowD d).x1 : Int), .int .u8 ((lowD d).x2 : Int), .int .u8 ((lowD d).x3 : Int), .int .u8 ((lowD d).x4 : Int), .int .u8 ((lowD d).x5 : Int), .int .u8 ((lowD d).x6 : Int), .int .u8 ((lowD d).x7 : Int)]) ∧ Below w.heap.size w w' := by
  obtain ⟨hd0, hx0, hw0, hz0⟩ := alloc2 w (.cells #[.int .u8 (d.x0 : Int), .int .u8 (d.x1 : Int), .int .u8 (d.x2 : Int), .int .u8 (d.x3 : Int), .int .u8 (d.x4 : Int), .int .u8 (d.x5 : Int), .int .u8 (d.x6 : Int), .int .u8 (d.x7 : Int)] 30) (.cells #[.int .u8 0, .int .u8 0, .int .u8 0, .int .u8 0, .int .u8 0, .int .u8 0, .int .u8 0, .int .u8 0] 30)
  have Hd := Lib.hid hd
  have H0 := Lib.hid hd0; have HX0 := Lib.hid hx0; have Hw0 := Lib.hid hw0
  clear hd hd0 hx0 hw0 hz0
  go_enter Tryz.func38, Tryz.ntmps38
  go_upto_region 1 with fail
  generalize (w.alloc (.cells #[.int .u8 (d.x0 : Int), .int .u8 (d.x1 : Int), .int .u8 (d.x2 : Int), .int .u8 (d.x3 : Int), .int .u8 (d.x4 : Int), .int .u8 (d.x5 : Int), .int .u8 (d.x6 : Int), .int .u8 (d.x7 : Int)] 30)).alloc (.cells #[.int .u8 0, .int .u8 0, .int .u8 0, .int .u8 0, .int .u8 0, .int .u8 0, .int .u8 0, .int .u8 0] 30) = v0 at *
  obtain ⟨zf, r0, r1, r2, r3, r4, r5, r6, r7⟩ := free8 H0.out
  have hl := block_lt H0.out
  clear zf
  go_wp2_with fail
  refine (word_any d leafW v0 Hd.out (by decide)).mono ?_
  rintro e v1 ⟨rfl, hb⟩
  have hx := block_below HX0.out hb (block_lt HX0.out); have hw := Hw0.out.trans (hb.mono Hw0.out.size)
  have Hbx := Lib.hid hx; have Hbw := Lib.hid hw
  clear r0 r1 r2 r3 r4 r5 r6 r7
  obtain ⟨zf, r0, r1, r2, r3, r4, r5, r6, r7⟩ := free8 hx
  clear hb hx hw HX0 Hw0 H0
  have Hp : Hid (hashWord d (wordB leafW) = lowD d) := Lib.hid rfl
  generalize hashWord d (wordB leafW) = p at *
  go_wp2
  clear zf r0 r1 r2 r3 r4 r5 r6 r7
  have h8 := set8 Hbx.out (.int .u8 (p.x0 : Int)) (.int .u8 (p.x1 : Int)) (.int .u8 (p.x2 : Int)) (.int .u8 (p.x3 : Int)) (.int .u8 (p.x4 : Int)) (.int .u8 (p.x5 : Int)) (.int .u8 (p.x6 : Int)) (.int .u8 (p.x7 : Int))
  have hg8 := grown_set8 v1 (w.heap.size + 1) (.int .u8 (p.x0 : Int)) (.int .u8 (p.x1 : Int)) (.int .u8 (p.x2 : Int)) (.int .u8 (p.x3 : Int)) (.int .u8 (p.x4 : Int)) (.int .u8 (p.x5 : Int)) (.int .u8 (p.x6 : Int)) (.int .u8 (p.x7 : Int))
  generalize ((((((((v1.setCell ⟨w.heap.size + 1, 0, none⟩ (.int .u8 (p.x0 : Int))).setCell ⟨w.heap.size + 1, 1, none⟩ (.int .u8 (p.x1 : Int))).setCell ⟨w.heap.size + 1, 2, none⟩ (.int .u8 (p.x2 : Int))).setCell ⟨w.heap.size + 1, 3, none⟩ (.int .u8 (p.x3 : Int))).setCell ⟨w.heap.size + 1, 4, none⟩ (.int .u8 (p.x4 : Int))).setCell ⟨w.heap.size + 1, 5, none⟩ (.int .u8 (p.x5 : Int))).setCell ⟨w.heap.size + 1, 6, none⟩ (.int .u8 (p.x6 : Int))).setCell ⟨w.heap.size + 1, 7, none⟩ (.int .u8 (p.x7 : Int))) = v3 at *
  obtain ⟨zf, r0, r1, r2, r3, r4, r5, r6, r7⟩ := free8 h8
  have Hb2 := Lib.hid (Hbw.out.grown hg8 Hbw.out.size (fun k hk => by injection hk with hk; omega))
  clear h8 hg8
  refine bodyPost_ret (v := .agg #[.int .u8 (p.x0 : Int), .int .u8 (p.x1 : Int), .int .u8 (p.x2 : Int), .int .u8 (p.x3 : Int), .int .u8 (p.x4 : Int), .int .u8 (p.x5 : Int), .int .u8 (p.x6 : Int), .int .u8 (p.x7 : Int)]) (by simp [results, Tryz.results38, go_sem, r0, r1, r2, r3, r4, r5, r6, r7]) rfl ⟨by rw [← Hp.out], Hb2.out⟩
theorem DRow.load {w : World} {g n k : Nat} {L : List D8} (h : DRow w g n L) (hk : k < n) : (Instr.loadAt 30 (.pointer (some ⟨g, k * 8, none⟩))).run Tryz.prog w = .ok (.agg #[.int .u8 ((L.getD k D8.zero).x0 : Int), .int .u8 ((L.getD k D8.zero).x1 : Int), .int .u8 ((L.getD k D8.zero).x2 : Int), .int .u8 ((L.getD k D8.zero).x3 : Int), .int .u8 ((L.getD k D8.zero).x4 : Int), .int .u8 ((L.getD k D8.zero).x5 : Int), .int .u8 ((L.getD k D8.zero).x6 : Int), .int .u8 ((L.getD k D8.zero).x7 : Int)]) w := by
  obtain ⟨xf, x0, x1, x2, x3, x4, x5, x6, x7⟩ := h.at8 hk
  have hl := h.lt
  clear xf h
  go_simp
set_option maxRecDepth 100000 in
set_option maxHeartbeats 1000000 in
theorem join_any (bt lev k m g g' : Nat) (M M' : List D8) (w : World) (h1 : w.cell? ⟨bt, 1 + lev, none⟩ = some (.slice (some ⟨g, 0, none⟩) (2 * m) (2 * m))) (h2 : w.cell? ⟨bt, 1 + (lev + 1), none⟩ = some (.slice (some ⟨g', 0, none⟩) m m))
    (hlev : lev + 1 ≤ 12) (hbt : bt < w.heap.size) (hM : DRow w g (2 * m) M) (hM' : DRow w g' m M') (hk : k < m) (hm : m ≤ 4096) (hok : ∀ d ∈ M, d.ok) (hgg : g ≠ g') (hbg : bt ≠ g') :
    Calls Tryz.prog 39 #[.pointer (some ⟨bt, 0, none⟩), .int .i64 ((lev : Int) + 1), .int .i64 (k : Int)] w fun e w' => e = .returned (.tuple #[]) ∧ DRow w' g' m (M'.set k (hashTwo (M.getD (2 * k) D8.zero) (M.getD (2 * k + 1) D8.zero))) ∧ w.grownBy w' (some g') := by
  have hl13 : (lev : Int) < 13 := by omega
  have hl12 : (lev : Int) + 1 < 13 := by omega
  have hk1 : 2 * k < 2 * m := by omega
  have hk2 : 2 * k + 1 < 2 * m := by omega
  have hl0 : (0 : Int) ≤ (lev : Int) + 1 := by omega
  have hk6 : (0 : Int) ≤ 2 * (k : Int) := by omega
  have hk7 : (0 : Int) ≤ 2 * (k : Int) + 1 := by omega
  have hw1 : IntKind.i64.wrap (2 * (k : Int)) = 2 * (k : Int) := by rw [IntKind.wrap_i64]; omega
  have hw2 : IntKind.i64.wrap (2 * (k : Int) + 1) = 2 * (k : Int) + 1 := by rw [IntKind.wrap_i64]; omega
  have ht1 : (2 * (k : Int)).toNat = 2 * k := by omega
  have ht2 : (2 * (k : Int) + 1).toNat = 2 * k + 1 := by omega
  have hk3 : (k : Int) < (m : Int) := by omega
  have hk4 : 2 * (k : Int) < 2 * (m : Int) := by omega
  have hk5 : 2 * (k : Int) + 1 < 2 * (m : Int) := by omega
  obtain ⟨xf, x0, x1, x2, x3, x4, x5, x6, x7⟩ := hM.at8 hk1
  obtain ⟨yf, y0, y1, y2, y3, y4, y5, y6, y7⟩ := hM.at8 hk2
  have Ha := Lib.hid (getD_ok hok (2 * k)); have Hb := Lib.hid (getD_ok hok (2 * k + 1))
  have HSS : Hid (∀ u, DRow u g (2 * m) M → u.cell? ⟨bt, 1 + (lev + 1), none⟩ = some (.slice (some ⟨g', 0, none⟩) m m) → u.cell? ⟨bt, 1 + (lev + 1), none⟩ = some (.slice (some ⟨g', 0, none⟩) m m) ∧ (Instr.loadAt 30 (.pointer (some ⟨g, 2 * k * 8, none⟩))).run Tryz.prog u = .ok (.agg #[.int .u8 ((M.getD (2 * k) D8.zero).x0 : Int), .int .u8 ((M.getD (2 * k) D8.zero).x1 : Int), .int .u8 ((M.getD (2 * k) D8.zero).x2 : Int), .int .u8 ((M.getD (2 * k) D8.zero).x3 : Int), .int .u8 ((M.getD (2 * k) D8.zero).x4 : Int), .int .u8 ((M.getD (2 * k) D8.zero).x5 : Int), .int .u8 ((M.getD (2 * k) D8.zero).x6 : Int), .int .u8 ((M.getD (2 * k) D8.zero).x7 : Int)]) u ∧ (Instr.loadAt 30 (.pointer (some ⟨g, (2 * k + 1) * 8, none⟩))).run Tryz.prog u = .ok (.agg #[.int .u8 ((M.getD (2 * k + 1) D8.zero).x0 : Int), .int .u8 ((M.getD (2 * k + 1) D8.zero).x1 : Int), .int .u8 ((M.getD (2 * k + 1) D8.zero).x2 : Int), .int .u8 ((M.getD (2 * k + 1) D8.zero).x3 : Int), .int .u8 ((M.getD (2 * k + 1) D8.zero).x4 : Int), .int .u8 ((M.getD (2 * k + 1) D8.zero).x5 : Int), .int .u8 ((M.getD (2 * k + 1) D8.zero).x6 : Int), .int .u8 ((M.getD (2 * k + 1) D8.zero).x7 : Int)]) u) := fun u h hc => ⟨hc, h.load hk1, h.load hk2⟩
  generalize M.getD (2 * k) D8.zero = a at *
  generalize M.getD (2 * k + 1) D8.zero = b at *
  have hlg := hM.lt
  have HM' := Lib.hid hM'; have HM := Lib.hid hM
  clear hok hM hM'
  go_enter Tryz.func39, Tryz.ntmps39
  go_upto_region 1 with fail
  have hS : w.drew.cell? ⟨bt, 1 + (lev + 1), none⟩ = some (.slice (some ⟨g', 0, none⟩) m m) ∧ (Instr.loadAt 30 (.pointer (some ⟨g, 2 * k * 8, none⟩))).run Tryz.prog w.drew = .ok (.agg #[.int .u8 (a.x0 : Int), .int .u8 (a.x1 : Int), .int .u8 (a.x2 : Int), .int .u8 (a.x3 : Int), .int .u8 (a.x4 : Int), .int .u8 (a.x5 : Int), .int .u8 (a.x6 : Int), .int .u8 (a.x7 : Int)]) w.drew ∧ (Instr.loadAt 30 (.pointer (some ⟨g, (2 * k + 1) * 8, none⟩))).run Tryz.prog w.drew = .ok (.agg #[.int .u8 (b.x0 : Int), .int .u8 (b.x1 : Int), .int .u8 (b.x2 : Int), .int .u8 (b.x3 : Int), .int .u8 (b.x4 : Int), .int .u8 (b.x5 : Int), .int .u8 (b.x6 : Int), .int .u8 (b.x7 : Int)]) w.drew := ⟨h2, by go_simp, by go_simp⟩
  refine wp_region_held_drew (S := fun w' => w'.cell? ⟨bt, 1 + (lev + 1), none⟩ = some (.slice (some ⟨g', 0, none⟩) m m) ∧ (Instr.loadAt 30 (.pointer (some ⟨g, 2 * k * 8, none⟩))).run Tryz.prog w' = .ok (.agg #[.int .u8 (a.x0 : Int), .int .u8 (a.x1 : Int), .int .u8 (a.x2 : Int), .int .u8 (a.x3 : Int), .int .u8 (a.x4 : Int), .int .u8 (a.x5 : Int), .int .u8 (a.x6 : Int), .int .u8 (a.x7 : Int)]) w' ∧ (Instr.loadAt 30 (.pointer (some ⟨g, (2 * k + 1) * 8, none⟩))).run Tryz.prog w' = .ok (.agg #[.int .u8 (b.x0 : Int), .int .u8 (b.x1 : Int), .int .u8 (b.x2 : Int), .int .u8 (b.x3 : Int), .int .u8 (b.x4 : Int), .int .u8 (b.x5 : Int), .int .u8 (b.x6 : Int), .int .u8 (b.x7 : Int)]) w') (by kernel_rfl) hS (fun hHeld => ?_)
  rw [show Array.replicate _ false = (#[false, false, false, false, false, false, false, false, false, false, false, false, false, false, false, false, false, false, false, false, false] : Array Bool) from rfl]
  refine takeH 0 (some 14) (v := ?_) rfl (by kernel_rfl) (by kernel_rfl) (by kernel_rfl) (by kernel_rfl) (fun _ _ _ h => h) (Or.inl ⟨by kernel_rfl, ?hy⟩) (by assumption) ?_
  case hy =>
    intro w' hSw
    clear hSw
    first
      | (go_simp; done)
      | (go_simp; with_reducible rfl)
  simp only [Act.put, List.setIfInBounds_toArray, List.set_cons_zero, List.set_cons_succ]
  refine takeH 1 (some 15) (v := ?_) rfl (by kernel_rfl) (by kernel_rfl) (by kernel_rfl) (by kernel_rfl) (fun _ _ _ h => h) (Or.inl ⟨by kernel_rfl, ?hy⟩) (by assumption) ?_
  case hy =>
    intro w' hSw
    clear hSw
    first
      | (go_simp; done)
      | (go_simp; with_reducible rfl)
  simp only [Act.put, List.setIfInBounds_toArray, List.set_cons_zero, List.set_cons_succ]
  refine takeH 2 (some 16) (v := ?_) rfl (by kernel_rfl) (by kernel_rfl) (by kernel_rfl) (by kernel_rfl) (fun _ _ _ h => h) (Or.inl ⟨by kernel_rfl, ?hy⟩) (by assumption) ?_
  case hy =>
    intro w' hSw
    clear hSw
    first
      | (go_simp; done)
      | (go_simp; with_reducible rfl)
  simp only [Act.put, List.setIfInBounds_toArray, List.set_cons_zero, List.set_cons_succ]
  refine takeH 3 (some 17) (v := ?_) rfl (by kernel_rfl) (by kernel_rfl) (by kernel_rfl) (by kernel_rfl) (fun _ _ _ h => h) (Or.inl ⟨by kernel_rfl, ?hy⟩) (by assumption) ?_
  case hy =>
    intro w' hSw
    clear hSw
    first
      | (go_simp; done)
      | (go_simp; with_reducible rfl)
  simp only [Act.put, List.setIfInBounds_toArray, List.set_cons_zero, List.set_cons_succ]
  refine takeH 4 (some 18) (v := ?_) rfl (by kernel_rfl) (by kernel_rfl) (by kernel_rfl) (by kernel_rfl) (fun _ _ _ h => h) (Or.inl ⟨by kernel_rfl, ?hy⟩) (by assumption) ?_
  case hy =>
    intro w' hSw
    clear hSw
    first
      | (go_simp; done)
      | (go_simp; with_reducible rfl)
  simp only [Act.put, List.setIfInBounds_toArray, List.set_cons_zero, List.set_cons_succ]
  refine takeH 5 (some 19) (v := ?_) rfl (by kernel_rfl) (by kernel_rfl) (by kernel_rfl) (by kernel_rfl) (fun _ _ _ h => h) (Or.inl ⟨by kernel_rfl, ?hy⟩) (by assumption) ?_
  case hy =>
    intro w' hSw
    try dsimp only at hSw
    obtain ⟨l1, l2, l3⟩ := hSw
    first
      | (go_simp; done)
      | (go_simp; with_reducible rfl)
  simp only [Act.put, List.setIfInBounds_toArray, List.set_cons_zero, List.set_cons_succ]
  refine takeH 6 (some 20) (v := ?_) rfl (by kernel_rfl) (by kernel_rfl) (by kernel_rfl) (by kernel_rfl) (fun _ _ _ h => h) (Or.inl ⟨by kernel_rfl, ?hy⟩) (by assumption) ?_
  case hy =>
    intro w' hSw
    clear hSw
    first
      | (go_simp; done)
      | (go_simp; with_reducible rfl)
  simp only [Act.put, List.setIfInBounds_toArray, List.set_cons_zero, List.set_cons_succ]
  refine takeH 7 (some 21) (v := ?_) rfl (by kernel_rfl) (by kernel_rfl) (by kernel_rfl) (by kernel_rfl) (fun _ _ _ h => h) (Or.inl ⟨by kernel_rfl, ?hy⟩) (by assumption) ?_
  case hy =>
    intro w' hSw
    clear hSw
    first
      | (go_simp; done)
      | (go_simp; with_reducible rfl)
  simp only [Act.put, List.setIfInBounds_toArray, List.set_cons_zero, List.set_cons_succ]
  refine takeH 8 (some 22) (v := ?_) rfl (by kernel_rfl) (by kernel_rfl) (by kernel_rfl) (by kernel_rfl) (fun _ _ _ h => h) (Or.inl ⟨by kernel_rfl, ?hy⟩) (by assumption) ?_
  case hy =>
    intro w' hSw
    clear hSw
    first
      | (go_simp; done)
      | (go_simp; with_reducible rfl)
  simp only [Act.put, List.setIfInBounds_toArray, List.set_cons_zero, List.set_cons_succ]
  refine takeH 9 (some 23) (v := ?_) rfl (by kernel_rfl) (by kernel_rfl) (by kernel_rfl) (by kernel_rfl) (fun _ _ _ h => h) (Or.inl ⟨by kernel_rfl, ?hy⟩) (by assumption) ?_
  case hy =>
    intro w' hSw
    clear hSw
    first
      | (go_simp; done)
      | (go_simp; with_reducible rfl)
  simp only [Act.put, List.setIfInBounds_toArray, List.set_cons_zero, List.set_cons_succ]
  refine takeH 10 (some 24) (v := ?_) rfl (by kernel_rfl) (by kernel_rfl) (by kernel_rfl) (by kernel_rfl) (fun _ _ _ h => h) (Or.inl ⟨by kernel_rfl, ?hy⟩) (by assumption) ?_
  case hy =>
    intro w' hSw
    clear hSw
    first
      | (go_simp; done)
      | (go_simp; with_reducible rfl)
  simp only [Act.put, List.setIfInBounds_toArray, List.set_cons_zero, List.set_cons_succ]
  refine takeH 11 (some 25) (v := .agg #[.int .u8 (a.x0 : Int), .int .u8 (a.x1 : Int), .int .u8 (a.x2 : Int), .int .u8 (a.x3 : Int), .int .u8 (a.x4 : Int), .int .u8 (a.x5 : Int), .int .u8 (a.x6 : Int), .int .u8 (a.x7 : Int)]) rfl (by kernel_rfl) (by kernel_rfl) (by kernel_rfl) (by kernel_rfl) (fun _ _ _ h => h) (Or.inl ⟨by kernel_rfl, ?hy⟩) (by assumption) ?_
  case hy =>
    intro w' hSw
    try dsimp only at hSw
    obtain ⟨l1, l2, l3⟩ := hSw
    simp [execOp, Act.eval, l2, Result.andThen]
  simp only [Act.put, List.setIfInBounds_toArray, List.set_cons_zero, List.set_cons_succ]
  refine takeH 12 (some 26) (v := ?_) rfl (by kernel_rfl) (by kernel_rfl) (by kernel_rfl) (by kernel_rfl) (fun _ _ _ h => h) (Or.inl ⟨by kernel_rfl, ?hy⟩) (by assumption) ?_
  case hy =>
    intro w' hSw
    clear hSw
    first
      | (go_simp; done)
      | (go_simp; with_reducible rfl)
  simp only [Act.put, List.setIfInBounds_toArray, List.set_cons_zero, List.set_cons_succ]
  refine takeH 13 (some 27) (v := ?_) rfl (by kernel_rfl) (by kernel_rfl) (by kernel_rfl) (by kernel_rfl) (fun _ _ _ h => h) (Or.inl ⟨by kernel_rfl, ?hy⟩) (by assumption) ?_
  case hy =>
    intro w' hSw
    clear hSw
    first
      | (go_simp; done)
      | (go_simp; with_reducible rfl)
  simp only [Act.put, List.setIfInBounds_toArray, List.set_cons_zero, List.set_cons_succ]
  refine takeH 14 (some 28) (v := ?_) rfl (by kernel_rfl) (by kernel_rfl) (by kernel_rfl) (by kernel_rfl) (fun _ _ _ h => h) (Or.inl ⟨by kernel_rfl, ?hy⟩) (by assumption) ?_
  case hy =>
    intro w' hSw
    clear hSw
    first
      | (go_simp; done)
      | (go_simp; with_reducible rfl)
  simp only [Act.put, List.setIfInBounds_toArray, List.set_cons_zero, List.set_cons_succ]
  refine takeH 15 (some 29) (v := ?_) rfl (by kernel_rfl) (by kernel_rfl) (by kernel_rfl) (by kernel_rfl) (fun _ _ _ h => h) (Or.inl ⟨by kernel_rfl, ?hy⟩) (by assumption) ?_
  case hy =>
    intro w' hSw
    clear hSw
    first
      | (go_simp; done)
      | (go_simp; with_reducible rfl)
  simp only [Act.put, List.setIfInBounds_toArray, List.set_cons_zero, List.set_cons_succ]
  refine takeH 16 (some 30) (v := ?_) rfl (by kernel_rfl) (by kernel_rfl) (by kernel_rfl) (by kernel_rfl) (fun _ _ _ h => h) (Or.inl ⟨by kernel_rfl, ?hy⟩) (by assumption) ?_
  case hy =>
    intro w' hSw
    clear hSw
    first
      | (go_simp; done)
      | (go_simp; with_reducible rfl)
  simp only [Act.put, List.setIfInBounds_toArray, List.set_cons_zero, List.set_cons_succ]
  refine takeH 17 (some 31) (v := .agg #[.int .u8 (b.x0 : Int), .int .u8 (b.x1 : Int), .int .u8 (b.x2 : Int), .int .u8 (b.x3 : Int), .int .u8 (b.x4 : Int), .int .u8 (b.x5 : Int), .int .u8 (b.x6 : Int), .int .u8 (b.x7 : Int)]) rfl (by kernel_rfl) (by kernel_rfl) (by kernel_rfl) (by kernel_rfl) (fun _ _ _ h => h) (Or.inl ⟨by kernel_rfl, ?hy⟩) (by assumption) ?_
  case hy =>
    intro w' hSw
    try dsimp only at hSw
    obtain ⟨l1, l2, l3⟩ := hSw
    simp [execOp, Act.eval, l3, Result.andThen]
  simp only [Act.put, List.setIfInBounds_toArray, List.set_cons_zero, List.set_cons_succ]
  have hq := (Below.refl w.heap.size w).drew
  refine wpAnyH_ready (rs := [18]) (by kernel_rfl) (by simp) ?_
  refine AllReadyH.cons rfl (fun K hK => ?_) AllReadyH.nil
  rw [if_pos (by kernel_rfl)]
  go_simp
  refine (two_any a b w.drew Ha.out Hb.out).mono ?_
  rintro e w1 ⟨rfl, hb⟩
  have hq1 := hq.trans hb
  have HM1 := Lib.hid (HM.out.below hq1); have HN1 := Lib.hid (HM'.out.below hq1)
  have hc1 : w1.cell? ⟨bt, 1 + (lev + 1), none⟩ = some (.slice (some ⟨g', 0, none⟩) m m) := (World.cell?_of_block (hq1.block bt hbt)).trans h2
  refine hK.out _ _ (HSS.out w1 HM1.out hc1) (fun _ => ?_)
  clear hK K hb
  simp only [List.setIfInBounds_toArray, List.set_cons_zero, List.set_cons_succ]
  generalize hp : hashTwo a b = p at *
  have Hp := Lib.hid hp
  clear hp
  refine takeH 19 (some 33) (v := ?_) rfl (by kernel_rfl) (by kernel_rfl) (by kernel_rfl) (by kernel_rfl) (fun _ _ _ h => h) (Or.inl ⟨by kernel_rfl, ?hy⟩) (by assumption) ?_
  case hy =>
    intro w' hSw
    clear hSw
    first
      | (go_simp; done)
      | (go_simp; with_reducible rfl)
  simp only [Act.put, List.setIfInBounds_toArray, List.set_cons_zero, List.set_cons_succ]
  clear xf x0 x1 x2 x3 x4 x5 x6 x7 yf y0 y1 y2 y3 y4 y5 y6 y7
  obtain ⟨zf, r0, r1, r2, r3, r4, r5, r6, r7⟩ := HN1.out.at8 hk
  obtain ⟨h3, g3⟩ := HN1.out.setR hk p
  unfold set8R at h3 g3
  have hlg2 := HN1.out.lt
  have hz1 := hq1.size
  have Hq1 := Lib.hid hq1
  have Hc1 := Lib.hid hc1
  clear hq1 hq hc1
  refine wpAnyH_ready (rs := [20]) (by kernel_rfl) (by simp) ?_
  refine AllReadyH.cons rfl (fun K hK => ?_) AllReadyH.nil
  rw [if_pos (by kernel_rfl)]
  go_simp
  generalize ((((((((w1.setCell ⟨g', k * 8, none⟩ (.int .u8 (p.x0 : Int))).setCell ⟨g', k * 8 + 1, none⟩ (.int .u8 (p.x1 : Int))).setCell ⟨g', k * 8 + 2, none⟩ (.int .u8 (p.x2 : Int))).setCell ⟨g', k * 8 + 3, none⟩ (.int .u8 (p.x3 : Int))).setCell ⟨g', k * 8 + 4, none⟩ (.int .u8 (p.x4 : Int))).setCell ⟨g', k * 8 + 5, none⟩ (.int .u8 (p.x5 : Int))).setCell ⟨g', k * 8 + 6, none⟩ (.int .u8 (p.x6 : Int))).setCell ⟨g', k * 8 + 7, none⟩ (.int .u8 (p.x7 : Int))) = w2 at *
  have HN2 : Hid (DRow w2 g' m (M'.set k (hashTwo a b))) := by rw [Hp.out]; exact h3
  have HG3 : Hid (w.grownBy w2 (some g')) := ⟨g3.os.trans Hq1.out.os, g3.tape.trans Hq1.out.tape, g3.output.trans Hq1.out.output, Nat.le_trans hz1 g3.size, fun j hj hne => (g3.block j (Nat.lt_of_lt_of_le hj hz1) hne).trans (Hq1.out.block j hj)⟩
  have HM2 := Lib.hid (HM1.out.grown g3 (by intro e; injection e with e; exact hgg e.symm))
  have hbl : w2.heap[bt]? = w1.heap[bt]? := g3.block bt (Nat.lt_of_lt_of_le hbt hz1) (by intro e; injection e with e; exact hbg e)
  have hc2 : w2.cell? ⟨bt, 1 + (lev + 1), none⟩ = some (.slice (some ⟨g', 0, none⟩) m m) := (World.cell?_of_block hbl).trans Hc1.out
  refine hK.out _ _ (HSS.out w2 HM2.out hc2) (fun _ => ?_)
  clear hK K hc2 hbl h3 g3
  refine wpAnyH_done (by kernel_rfl) ?_ _
  go_wp2
  go_end0
  exact ⟨rfl, HN2.out, HG3.out⟩
end Go.Proofs.YthjpaclcoipocaaGreat
namespace Go.Proofs.YthjpaclcoipocaaGreat
open Go.RowKit Go.Lib



/-- What a tree's cells hold: the leaves, and the rows of the first q levels. -/
def nodeV (h : Nat) (gs : Nat → Nat) (q j : Nat) : Value := if j < q then .slice (some ⟨gs j, 0, none⟩) (2 ^ (h - j)) (2 ^ (h - j)) else .slice none 0 0
def treeC (v : Value) (h : Nat) (gs : Nat → Nat) (q : Nat) : Array Value := (v :: (List.range 13).map (nodeV h gs q)).toArray
theorem treeC_size (v : Value) (h : Nat) (gs : Nat → Nat) (q : Nat) : (treeC v h gs q).size = 14 := by simp [treeC]
theorem treeC_node (v : Value) (h : Nat) (gs : Nat → Nat) (q j : Nat) (hj : j < 13) : (treeC v h gs q)[1 + j]? = some (nodeV h gs q j) := by
  unfold treeC
  rw [List.getElem?_toArray, Nat.add_comm, List.getElem?_cons_succ, List.getElem?_map, List.getElem?_range hj]; rfl
theorem treeC_set (v : Value) (h : Nat) (gs : Nat → Nat) (q g : Nat) (hq : q < 13) : (treeC v h gs q).setIfInBounds (1 + q) (.slice (some ⟨g, 0, none⟩) (2 ^ (h - q)) (2 ^ (h - q))) = treeC v h (fun j => if j = q then g else gs j) (q + 1) := by
  apply Array.ext_getElem?
  intro i
  rw [Array.getElem?_setIfInBounds, treeC_size]
  rcases Nat.eq_zero_or_pos i with rfl | hi
  · rw [if_neg (by omega)]; rfl
  · obtain ⟨j, rfl⟩ : ∃ j, i = 1 + j := ⟨i - 1, by omega⟩
    by_cases hj : j < 13
    · rw [treeC_node _ _ _ _ _ hj, treeC_node _ _ _ _ _ hj]
      unfold nodeV
      by_cases hjq : j = q
      · subst hjq
        rw [if_pos rfl, if_pos (by omega), if_pos (by omega)]
        simp
      · rw [if_neg (by omega)]
        by_cases hlt : j < q
        · rw [if_pos hlt, if_pos (by omega)]
          simp [hjq]
        · rw [if_neg hlt, if_neg (by omega)]
    · rw [if_neg (by omega), Array.getElem?_eq_none (by rw [treeC_size]; omega), Array.getElem?_eq_none (by rw [treeC_size]; omega)]
/-- A tree of 2 to the h leaves lies in blocks from T0 to T1, its head in block bt. -/
structure TreeAt (w : World) (T0 T1 bt h : Nat) (l : List D8) : Prop where
  hh : h ≤ 8
  len : l.length = 2 ^ h
  ok : ∀ d ∈ l, d.ok
  blk : ∃ (A : Option Addr) (c : Nat) (gs : Nat → Nat), w.heap[bt]? = some (.cells (treeC (.slice A (2 ^ h) c) h gs (h + 1)) 91 (0, 0)) ∧ w.ownsRow T0 30 8 (.slice A (2 ^ h) c) (2 ^ h) (flatD l) ∧ (∀ g, (Value.slice A (2 ^ h) c).ownBlock = some g → g < T1) ∧ ∀ j, j ≤ h → T0 ≤ gs j ∧ gs j < T1 ∧ DRow w (gs j) (2 ^ (h - j)) (lvl l j)
  lo : T0 ≤ bt
  hi : bt < T1
  hT : T1 ≤ w.heap.size
theorem TreeAt.kept {w w' : World} {T0 T1 bt h : Nat} {l : List D8} (t : TreeAt w T0 T1 bt h l) (hk : ∀ k, T0 ≤ k → k < T1 → w'.heap[k]? = w.heap[k]?) (hs : w.heap.size ≤ w'.heap.size) : TreeAt w' T0 T1 bt h l := by
  obtain ⟨A, c, gs, h1, h2, h3, h4⟩ := t.blk
  refine ⟨t.hh, t.len, t.ok, ⟨A, c, gs, (hk bt t.lo t.hi).trans h1, ?_, h3, fun j hj => ?_⟩, t.lo, t.hi, Nat.le_trans t.hT hs⟩
  · refine ⟨h2.1, ?_⟩
    rcases h2.2 with h5 | ⟨g, cap, cur, e, hb, hg, hr⟩
    · exact .inl h5
    · have hlt := h3 g (by rw [e]; rfl)
      exact .inr ⟨g, cap, cur, e, hb, (hk g hb hlt).trans hg, hr⟩
  · obtain ⟨a, b, c'⟩ := h4 j hj
    exact ⟨a, b, c'.same (hk _ a b)⟩
theorem TreeAt.below {w w' : World} {T0 T1 bt h : Nat} {l : List D8} (t : TreeAt w T0 T1 bt h l) (hb : Below w.heap.size w w') : TreeAt w' T0 T1 bt h l :=
  t.kept (fun k _ h2 => hb.block k (Nat.lt_of_lt_of_le h2 t.hT)) hb.size
set_option maxRecDepth 100000 in
set_option maxHeartbeats 1000000 in
theorem tlen_any (T0 T1 bt h : Nat) (l : List D8) (w : World) (t : TreeAt w T0 T1 bt h l) : Calls Tryz.prog 114 #[.pointer (some ⟨bt, 0, none⟩)] w fun e w' => e = .returned (.int .i64 ((2 ^ h : Nat) : Int)) ∧ w' = w := by
  obtain ⟨A, c, gs, h1, h2, h3, h4⟩ := t.blk
  have q0 : w.cell? ⟨bt, 0, none⟩ = some (.slice A (2 ^ h) c) := by rw [block_cell h1]; rfl
  have hl := block_lt h1
  clear h1 h2 h3 h4 t
  generalize 2 ^ h = n at *
  go_enter Tryz.func114, Tryz.ntmps114
  go_wp2
  go_ret
  exact ⟨rfl, rfl⟩
set_option maxRecDepth 100000 in
set_option maxHeartbeats 1000000 in
theorem theight_any (T0 T1 bt h : Nat) (l : List D8) (w : World) (t : TreeAt w T0 T1 bt h l) : Calls Tryz.prog 113 #[.pointer (some ⟨bt, 0, none⟩)] w fun e w' => e = .returned (.int .i64 (h : Int)) ∧ w' = w := by
  obtain ⟨A, c, gs, h1, h2, h3, h4⟩ := t.blk
  have q0 : w.cell? ⟨bt, 0, none⟩ = some (.slice A (2 ^ h) c) := by rw [block_cell h1]; rfl
  have hl := block_lt h1
  have Hh := Lib.hid t.hh
  clear h1 h2 h3 h4 t
  generalize hn : 2 ^ h = n at *
  have Hn := Lib.hid hn
  clear hn
  go_enter Tryz.func113, Tryz.ntmps113
  go_wp2_with fail
  refine (height_any h n w Hn.out.symm Hh.out).mono ?_
  rintro e w' ⟨rfl, rfl⟩
  go_wp2
  go_ret
  exact ⟨rfl, rfl⟩
set_option maxRecDepth 100000 in
set_option maxHeartbeats 1000000 in
theorem has_any (T0 T1 bt h i : Nat) (l : List D8) (w : World) (t : TreeAt w T0 T1 bt h l) (hi : i < 2 ^ h) : Calls Tryz.prog 112 #[.pointer (some ⟨bt, 0, none⟩), .int .i64 (i : Int)] w fun e w' => e = .returned (.bool true) ∧ w' = w := by
  have hw := tlen_any T0 T1 bt h l w t
  have hb : decide ((0 : Int) ≤ (i : Int)) = true := by simp
  clear t
  generalize 2 ^ h = n at *
  have hc : decide ((i : Int) < (n : Int)) = true := decide_eq_true (by omega)
  go_enter Tryz.func112, Tryz.ntmps112
  go_wp2_with fail
  refine hw.mono ?_
  rintro e w' ⟨rfl, rfl⟩
  go_wp2
  go_ret
  exact ⟨rfl, rfl⟩
/-- The way from leaf i up: the other one of each two. -/
def other (i : Nat) : Nat := if i % 2 = 0 then i + 1 else i - 1
def pathD (l : List D8) (i h : Nat) : List D8 := (List.range h).map (fun k => (lvl l k).getD (other (i / 2 ^ k)) D8.zero)
theorem xor_other : ∀ n : Fin 256, bits .xor .i64 (n.val : Int) 1 = (other n.val : Int) := by decide +kernel
theorem other_lt {x m : Nat} (hx : x < 2 * m) : other x < 2 * m := by unfold other; split <;> omega
theorem pathD_succ (l : List D8) (i k : Nat) : pathD l i (k + 1) = pathD l i k ++ [(lvl l k).getD (other (i / 2 ^ k)) D8.zero] := by
  unfold pathD
  rw [List.range_succ, List.map_append]; rfl
theorem pathD_len (l : List D8) (i k : Nat) : (pathD l i k).length = k := by simp [pathD]
theorem pathD_ok (l : List D8) (i k : Nat) : ∀ d ∈ pathD l i k, d.ok := by
  intro d hd
  obtain ⟨j, _, rfl⟩ := List.mem_map.1 hd
  exact getD_ok (lvl_ok l j) _
theorem div_lt {i h k : Nat} (hi : i < 2 ^ h) (hk : k < h) : i / 2 ^ k < 2 * 2 ^ (h - (k + 1)) := by
  rw [← Nat.pow_succ', Nat.div_lt_iff_lt_mul (Nat.two_pow_pos k), ← Nat.pow_add, show h - (k + 1) + 1 + k = h by omega]
  exact hi
set_option maxRecDepth 100000 in
set_option maxHeartbeats 2000000 in
theorem path_any (T0 T1 bt h i : Nat) (l : List D8) (w : World) (t : TreeAt w T0 T1 bt h l) (hi : i < 2 ^ h) :
    Calls Tryz.prog 109 #[.pointer (some ⟨bt, 0, none⟩), .int .i64 (i : Int)] w fun e w' => ∃ A c, e = .returned (.tuple #[.slice A h c, .int .i64 0]) ∧ w'.ownsRow w.heap.size 30 8 (.slice A h c) h (flatD (pathD l i h)) ∧ Below w.heap.size w w' := by
  have hw1 := has_any T0 T1 bt h i l w t hi
  have hw2 := theight_any T0 T1 bt h l w t
  have Ht := Lib.hid t; have Hi := Lib.hid hi
  have hh := t.hh
  obtain ⟨i0, hi0, hz0, hz1, hz2⟩ := info_parts info_Dg
  have HI := Lib.hid (And.intro hi0 (And.intro hz0 (And.intro hz1 hz2)))
  clear t hi hi0 hz0 hz1 hz2
  go_enter Tryz.func109, Tryz.ntmps109
  go_wp2_with fail
  refine hw1.mono ?_
  rintro e w' ⟨rfl, rfl⟩
  obtain ⟨w, rfl⟩ : ∃ w : World, w = w' := ⟨_, rfl⟩
  go_wp2_with fail
  refine hw2.mono ?_
  rintro e w' ⟨rfl, rfl⟩
  obtain ⟨w, rfl⟩ : ∃ w : World, w = w' := ⟨_, rfl⟩
  go_wp2_with (at_make; go_must (refine wpList_make_own w (by rfl) _ _ 66 (by rfl) w.heap.size 30 i0 (.agg #[.int .u8 0, .int .u8 0, .int .u8 0, .int .u8 0, .int .u8 0, .int .u8 0, .int .u8 0, .int .u8 0]) 8 Tryz.underlying66 HI.out.1 HI.out.2.1 HI.out.2.2.1 .i64 .i64 _ h (by rfl) (by rfl) (by simp) (by rw [HI.out.2.2.2]; omega) (by simp only [maxLen]; omega) (Nat.le_refl _) ?_); intro w1 hown1 hg1; have Hb1 := Lib.hid (below_of_grown hg1 (Nat.le_refl _) (by simp)); have HO1 := Lib.hid hown1; have HT1 := Lib.hid (Ht.out.below Hb1.out); clear hown1 hg1 hw1 hw2)
  have hw2 := theight_any T0 T1 bt h l w1 HT1.out
  refine hw2.mono ?_
  rintro e w' ⟨rfl, rfl⟩
  obtain ⟨w1, rfl⟩ : ∃ w1 : World, w1 = w' := ⟨_, rfl⟩
  clear hw2
  go_wp2
  go_loopw [21, 1, 6] (fun s21 s1 s6 wr => ∃ (k x : Nat) (A : Option Addr) (c : Nat), k ≤ h ∧ x = i / 2 ^ k ∧ s21 = .int .i64 (k : Int) ∧ s1 = .int .i64 (x : Int) ∧ s6 = .slice A k c ∧ wr.ownsRow w.heap.size 30 8 (.slice A k c) k (flatD (pathD l i k)) ∧ Below w.heap.size w wr) (fun s21 _ _ _ => h - (RowKit.intOf s21).toNat)
  case atStart => exact ⟨0, i, _, _, by omega, by simp, rfl, rfl, rfl, HO1.out, Hb1.out⟩
  case round =>
    obtain ⟨k, x, A, c, hk, hx, rfl, rfl, rfl, ho, hb⟩ := hrel
    have HO := Lib.hid ho; have Hb := Lib.hid hb; have Hx := Lib.hid hx
    have HT := Lib.hid (Ht.out.below hb)
    clear ho hb hx HO1 Hb1 HT1
    by_cases hlt : k < h
    · have hd1 : decide ((k : Int) < (h : Int)) = true := decide_eq_true (by omega)
      have hki : (k : Int) < (h : Int) := by omega
      have hk13 : (k : Int) < 13 := by omega
      obtain ⟨A', c', gs, g1, g2, g3, g4⟩ := HT.out.blk
      obtain ⟨_, _, hR⟩ := g4 k (by omega)
      have hc : wr.cell? ⟨bt, 1 + k, none⟩ = some (.slice (some ⟨gs k, 0, none⟩) (2 ^ (h - k)) (2 ^ (h - k))) := by
        rw [block_cell g1, treeC_node _ _ _ _ _ (by omega)]
        unfold nodeV
        rw [if_pos (by omega)]
      have hbl := block_lt g1
      have hx1 : x < 2 * 2 ^ (h - (k + 1)) := by rw [Hx.out]; exact div_lt Hi.out hlt
      have hm : 2 ^ (h - k) = 2 * 2 ^ (h - (k + 1)) := by rw [show h - k = (h - (k + 1)) + 1 by omega, Nat.pow_succ, Nat.mul_comm]
      have hx2 := other_lt hx1
      have hx256 : x < 256 := by
        have := (pow_le8 hh).2
        have h2 : x ≤ i := by rw [Hx.out]; exact Nat.div_le_self _ _
        have := Hi.out
        omega
      have hxo : bits .xor .i64 (x : Int) 1 = (other x : Int) := xor_other ⟨x, hx256⟩
      rw [← hm] at hx2
      have hsn : pathD l i (k + 1) = pathD l i k ++ [(lvl l k).getD (other x) D8.zero] := by rw [pathD_succ, Hx.out]
      have hxn : x / 2 = i / 2 ^ (k + 1) := by rw [Hx.out, Nat.div_div_eq_div_mul, Nat.pow_succ]
      have hx3 : (other x : Int) < ((2 ^ (h - k) : Nat) : Int) := by omega
      have hx4 : (0 : Int) ≤ (other x : Int) := by omega
      clear g1 g2 g3 g4
      generalize 2 ^ (h - k) = m at *
      generalize other x = y at *
      obtain ⟨zf, r0, r1, r2, r3, r4, r5, r6, r7⟩ := hR.at8 hx2
      have hlg := hR.lt
      generalize (lvl l k).getD y D8.zero = q at *
      have Hsn := Lib.hid hsn; have Hxn := Lib.hid hxn; have Hk := Lib.hid hlt
      generalize gs k = gk at *
      clear zf hsn hxn hR hm hx1 hlt
      have HO2 := Lib.hid (HO.out.alloc (.cells #[.int .u8 (q.x0 : Int), .int .u8 (q.x1 : Int), .int .u8 (q.x2 : Int), .int .u8 (q.x3 : Int), .int .u8 (q.x4 : Int), .int .u8 (q.x5 : Int), .int .u8 (q.x6 : Int), .int .u8 (q.x7 : Int)] 30))
      have HRl : Hid (Rd (wr.alloc (.cells #[.int .u8 (q.x0 : Int), .int .u8 (q.x1 : Int), .int .u8 (q.x2 : Int), .int .u8 (q.x3 : Int), .int .u8 (q.x4 : Int), .int .u8 (q.x5 : Int), .int .u8 (q.x6 : Int), .int .u8 (q.x7 : Int)] 30)) (wr.alloc (.cells #[.int .u8 (q.x0 : Int), .int .u8 (q.x1 : Int), .int .u8 (q.x2 : Int), .int .u8 (q.x3 : Int), .int .u8 (q.x4 : Int), .int .u8 (q.x5 : Int), .int .u8 (q.x6 : Int), .int .u8 (q.x7 : Int)] 30)).heap.size 8 (some ⟨wr.heap.size, 0, none⟩) 1 (flatD [q])) := Rd.newA (n := 1) (sz := 8) (xs := flatD [q]) wr 30 #[.int .u8 (q.x0 : Int), .int .u8 (q.x1 : Int), .int .u8 (q.x2 : Int), .int .u8 (q.x3 : Int), .int .u8 (q.x4 : Int), .int .u8 (q.x5 : Int), .int .u8 (q.x6 : Int), .int .u8 (q.x7 : Int)] rfl rfl
      have hbs : w.heap.size ≤ (wr.alloc (.cells #[.int .u8 (q.x0 : Int), .int .u8 (q.x1 : Int), .int .u8 (q.x2 : Int), .int .u8 (q.x3 : Int), .int .u8 (q.x4 : Int), .int .u8 (q.x5 : Int), .int .u8 (q.x6 : Int), .int .u8 (q.x7 : Int)] 30)).heap.size := by rw [World.size_alloc]; have := Hb.out.size; omega
      go_wp2_with (at_builtin; go_must (refine wpList_append_rd (wr.alloc (.cells #[.int .u8 (q.x0 : Int), .int .u8 (q.x1 : Int), .int .u8 (q.x2 : Int), .int .u8 (q.x3 : Int), .int .u8 (q.x4 : Int), .int .u8 (q.x5 : Int), .int .u8 (q.x6 : Int), .int .u8 (q.x7 : Int)] 30)) (by rfl) _ _ 66 (by rfl) w.heap.size 30 i0 (.agg #[.int .u8 0, .int .u8 0, .int .u8 0, .int .u8 0, .int .u8 0, .int .u8 0, .int .u8 0, .int .u8 0]) 8 8 Tryz.underlying66 HI.out rfl (by decide) _ _ _ (by rfl) HO2.out (wr.alloc (.cells #[.int .u8 (q.x0 : Int), .int .u8 (q.x1 : Int), .int .u8 (q.x2 : Int), .int .u8 (q.x3 : Int), .int .u8 (q.x4 : Int), .int .u8 (q.x5 : Int), .int .u8 (q.x6 : Int), .int .u8 (q.x7 : Int)] 30)).heap.size (some ⟨wr.heap.size, 0, none⟩) 1 1 _ (by rfl) HRl.out (flatD_one _) (by omega) (by omega) hbs ?_); intro v4 w4 ho4 hb4; obtain ⟨A4, c4, rfl⟩ := own_form ho4; rw [← flatD_append, ← Hsn.out] at ho4; have HO4 := Lib.hid ho4; have Hb4 := Lib.hid ((Hb.out.alloc Hb.out.size (.cells #[.int .u8 (q.x0 : Int), .int .u8 (q.x1 : Int), .int .u8 (q.x2 : Int), .int .u8 (q.x3 : Int), .int .u8 (q.x4 : Int), .int .u8 (q.x5 : Int), .int .u8 (q.x6 : Int), .int .u8 (q.x7 : Int)] 30)).trans hb4); clear ho4 hb4)
      go_roundw
      case rel => exact ⟨k + 1, x / 2, A4, c4, Hk.out, Hxn.out, by go_num, by go_num, rfl, HO4.out, Hb4.out⟩
      case measure => have := Hk.out; simp [RowKit.intOf]; omega
    · obtain rfl : k = h := by omega
      have hd1 : decide ((k : Int) < (k : Int)) = false := by simp
      clear hlt hk
      go_wp2
      go_ret2
      exact ⟨A, c, rfl, HO.out, Hb.out⟩
end Go.Proofs.YthjpaclcoipocaaGreat
