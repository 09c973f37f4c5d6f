/- A tree of digests, plain and in memory: the walks of low, Len, has, height, join. Condition: at most 256 leaves. -/
import Derived.Test.YthjpaclcoipocaaDoorKeL
namespace Go.Proofs.YthjpaclcoipocaaDoor
open Go.RowKit Go.Lib



def leafW : ByteArray := ⟨#[108, 101, 97, 102]⟩
def lowD (d : D8) : D8 := hashWord d (wordB leafW)
/-- The levels above leaves, from below. -/
def lvl (l : List D8) : Nat → List D8
  | 0 => l.map lowD
  | k + 1 => (List.range ((lvl l k).length / 2)).map (fun i => hashTwo ((lvl l k).getD (2 * i) D8.zero) ((lvl l k).getD (2 * i + 1) D8.zero))
theorem lvl_ok (l : List D8) : ∀ k, ∀ d ∈ lvl l k, d.ok := by
  intro k d hd
  cases k with
  | zero => obtain ⟨x, _, rfl⟩ := List.mem_map.1 hd; exact hs_ok _
  | succ k => obtain ⟨x, _, rfl⟩ := List.mem_map.1 hd; exact hs_ok _
theorem lvl_len {l : List D8} {h : Nat} (hl : l.length = 2 ^ h) : ∀ k, k ≤ h → (lvl l k).length = 2 ^ (h - k) := by
  intro k
  induction k with
  | zero => intro _; simp [lvl, hl]
  | succ k ih =>
    intro hk
    have h1 := ih (by omega)
    simp only [lvl, List.length_map, List.length_range, h1]
    rw [show h - k = (h - (k + 1)) + 1 by omega, Nat.pow_succ]
    omega
set_option maxRecDepth 100000 in
set_option maxHeartbeats 2000000 in
theorem low_any (d : D8) (w : World) (hd : d.ok) :
    Calls Tryd.prog 34 #[.agg #[.int .u8 (d.x0 : Int), .int .u8 (d.x1 : Int), .int .u8 (d.x2 : Int), .int .u8 (d.x3 : Int), .int .u8 (d.x4 : Int), .int .u8 (d.x5 : Int), .int .u8 (d.x6 : Int), .int .u8 (d.x7 : Int)]] w fun e w' => e = .returned (.agg #[.int .u8 ((lowD d).x0 : Int), .int .u8 ((lowD d).x1 : Int), .int .u8 ((lowD d).x2 : Int), .int .u8 ((lowD d).x3 : Int), .int .u8 ((lowD d).x4 : Int), .int .u8 ((lowD d).x5 : Int), .int .u8 ((lowD d).x6 : Int), .int .u8 ((lowD d).x7 : Int)]) ∧ Below w.heap.size w w' := by
  obtain ⟨hd0, hx0, hw0, hz0⟩ := alloc2 w (.cells #[.int .u8 (d.x0 : Int), .int .u8 (d.x1 : Int), .int .u8 (d.x2 : Int), .int .u8 (d.x3 : Int), .int .u8 (d.x4 : Int), .int .u8 (d.x5 : Int), .int .u8 (d.x6 : Int), .int .u8 (d.x7 : Int)] 31) (.cells #[.int .u8 0, .int .u8 0, .int .u8 0, .int .u8 0, .int .u8 0, .int .u8 0, .int .u8 0, .int .u8 0] 31)
  have Hd := Lib.hid hd
  have H0 := Lib.hid hd0; have HX0 := Lib.hid hx0; have Hw0 := Lib.hid hw0
  clear hd hd0 hx0 hw0 hz0
  go_enter Tryd.func34, Tryd.ntmps34
  go_upto_region 1 with fail
  generalize (w.alloc (.cells #[.int .u8 (d.x0 : Int), .int .u8 (d.x1 : Int), .int .u8 (d.x2 : Int), .int .u8 (d.x3 : Int), .int .u8 (d.x4 : Int), .int .u8 (d.x5 : Int), .int .u8 (d.x6 : Int), .int .u8 (d.x7 : Int)] 31)).alloc (.cells #[.int .u8 0, .int .u8 0, .int .u8 0, .int .u8 0, .int .u8 0, .int .u8 0, .int .u8 0, .int .u8 0] 31) = v0 at *
  obtain ⟨zf, r0, r1, r2, r3, r4, r5, r6, r7⟩ := free8 H0.out
  have hl := block_lt H0.out
  clear zf
  go_wp2_with fail
  refine (word_any d leafW v0 Hd.out (by decide)).mono ?_
  rintro e v1 ⟨rfl, hb⟩
  have hx := block_below HX0.out hb (block_lt HX0.out); have hw := Hw0.out.trans (hb.mono Hw0.out.size)
  have Hbx := Lib.hid hx; have Hbw := Lib.hid hw
  clear r0 r1 r2 r3 r4 r5 r6 r7
  obtain ⟨zf, r0, r1, r2, r3, r4, r5, r6, r7⟩ := free8 hx
  clear hb hx hw HX0 Hw0 H0
  have Hp : Hid (hashWord d (wordB leafW) = lowD d) := Lib.hid rfl
  generalize hashWord d (wordB leafW) = p at *
  go_wp2
  clear zf r0 r1 r2 r3 r4 r5 r6 r7
  have h8 := set8 Hbx.out (.int .u8 (p.x0 : Int)) (.int .u8 (p.x1 : Int)) (.int .u8 (p.x2 : Int)) (.int .u8 (p.x3 : Int)) (.int .u8 (p.x4 : Int)) (.int .u8 (p.x5 : Int)) (.int .u8 (p.x6 : Int)) (.int .u8 (p.x7 : Int))
  have hg8 := grown_set8 v1 (w.heap.size + 1) (.int .u8 (p.x0 : Int)) (.int .u8 (p.x1 : Int)) (.int .u8 (p.x2 : Int)) (.int .u8 (p.x3 : Int)) (.int .u8 (p.x4 : Int)) (.int .u8 (p.x5 : Int)) (.int .u8 (p.x6 : Int)) (.int .u8 (p.x7 : Int))
  generalize ((((((((v1.setCell ⟨w.heap.size + 1, 0, none⟩ (.int .u8 (p.x0 : Int))).setCell ⟨w.heap.size + 1, 1, none⟩ (.int .u8 (p.x1 : Int))).setCell ⟨w.heap.size + 1, 2, none⟩ (.int .u8 (p.x2 : Int))).setCell ⟨w.heap.size + 1, 3, none⟩ (.int .u8 (p.x3 : Int))).setCell ⟨w.heap.size + 1, 4, none⟩ (.int .u8 (p.x4 : Int))).setCell ⟨w.heap.size + 1, 5, none⟩ (.int .u8 (p.x5 : Int))).setCell ⟨w.heap.size + 1, 6, none⟩ (.int .u8 (p.x6 : Int))).setCell ⟨w.heap.size + 1, 7, none⟩ (.int .u8 (p.x7 : Int))) = v3 at *
  obtain ⟨zf, r0, r1, r2, r3, r4, r5, r6, r7⟩ := free8 h8
  have Hb2 := Lib.hid (Hbw.out.grown hg8 Hbw.out.size (fun k hk => by injection hk with hk; omega))
  clear h8 hg8
  refine bodyPost_ret (v := .agg #[.int .u8 (p.x0 : Int), .int .u8 (p.x1 : Int), .int .u8 (p.x2 : Int), .int .u8 (p.x3 : Int), .int .u8 (p.x4 : Int), .int .u8 (p.x5 : Int), .int .u8 (p.x6 : Int), .int .u8 (p.x7 : Int)]) (by simp [results, Tryd.results34, go_sem, r0, r1, r2, r3, r4, r5, r6, r7]) rfl ⟨by rw [← Hp.out], Hb2.out⟩
theorem DRow.load {w : World} {g n k : Nat} {L : List D8} (h : DRow w g n L) (hk : k < n) : (Instr.loadAt 31 (.pointer (some ⟨g, k * 8, none⟩))).run Tryd.prog w = .ok (.agg #[.int .u8 ((L.getD k D8.zero).x0 : Int), .int .u8 ((L.getD k D8.zero).x1 : Int), .int .u8 ((L.getD k D8.zero).x2 : Int), .int .u8 ((L.getD k D8.zero).x3 : Int), .int .u8 ((L.getD k D8.zero).x4 : Int), .int .u8 ((L.getD k D8.zero).x5 : Int), .int .u8 ((L.getD k D8.zero).x6 : Int), .int .u8 ((L.getD k D8.zero).x7 : Int)]) w := by
  obtain ⟨xf, x0, x1, x2, x3, x4, x5, x6, x7⟩ := h.at8 hk
  have hl := h.lt
  clear xf h
  go_simp
set_option maxRecDepth 100000 in
set_option maxHeartbeats 1000000 in
theorem join_any (bt lev k m g g' : Nat) (M M' : List D8) (w : World) (h1 : w.cell? ⟨bt, 1 + lev, none⟩ = some (.slice (some ⟨g, 0, none⟩) (2 * m) (2 * m))) (h2 : w.cell? ⟨bt, 1 + (lev + 1), none⟩ = some (.slice (some ⟨g', 0, none⟩) m m))
    (hlev : lev + 1 ≤ 12) (hbt : bt < w.heap.size) (hM : DRow w g (2 * m) M) (hM' : DRow w g' m M') (hk : k < m) (hm : m ≤ 4096) (hok : ∀ d ∈ M, d.ok) (hgg : g ≠ g') (hbg : bt ≠ g') :
    Calls Tryd.prog 35 #[.pointer (some ⟨bt, 0, none⟩), .int .i64 ((lev : Int) + 1), .int .i64 (k : Int)] w fun e w' => e = .returned (.tuple #[]) ∧ DRow w' g' m (M'.set k (hashTwo (M.getD (2 * k) D8.zero) (M.getD (2 * k + 1) D8.zero))) ∧ w.grownBy w' (some g') := by
  have hl13 : (lev : Int) < 13 := by omega
  have hl12 : (lev : Int) + 1 < 13 := by omega
  have hk1 : 2 * k < 2 * m := by omega
  have hk2 : 2 * k + 1 < 2 * m := by omega
  have hl0 : (0 : Int) ≤ (lev : Int) + 1 := by omega
  have hk6 : (0 : Int) ≤ 2 * (k : Int) := by omega
  have hk7 : (0 : Int) ≤ 2 * (k : Int) + 1 := by omega
  have hw1 : IntKind.i64.wrap (2 * (k : Int)) = 2 * (k : Int) := by rw [IntKind.wrap_i64]; omega
  have hw2 : IntKind.i64.wrap (2 * (k : Int) + 1) = 2 * (k : Int) + 1 := by rw [IntKind.wrap_i64]; omega
  have ht1 : (2 * (k : Int)).toNat = 2 * k := by omega
  have ht2 : (2 * (k : Int) + 1).toNat = 2 * k + 1 := by omega
  have hk3 : (k : Int) < (m : Int) := by omega
  have hk4 : 2 * (k : Int) < 2 * (m : Int) := by omega
  have hk5 : 2 * (k : Int) + 1 < 2 * (m : Int) := by omega
  obtain ⟨xf, x0, x1, x2, x3, x4, x5, x6, x7⟩ := hM.at8 hk1
  obtain ⟨yf, y0, y1, y2, y3, y4, y5, y6, y7⟩ := hM.at8 hk2
  have Ha := Lib.hid (getD_ok hok (2 * k)); have Hb := Lib.hid (getD_ok hok (2 * k + 1))
  have HSS : Hid (∀ u, DRow u g (2 * m) M → u.cell? ⟨bt, 1 + (lev + 1), none⟩ = some (.slice (some ⟨g', 0, none⟩) m m) → u.cell? ⟨bt, 1 + (lev + 1), none⟩ = some (.slice (some ⟨g', 0, none⟩) m m) ∧ (Instr.loadAt 31 (.pointer (some ⟨g, 2 * k * 8, none⟩))).run Tryd.prog u = .ok (.agg #[.int .u8 ((M.getD (2 * k) D8.zero).x0 : Int), .int .u8 ((M.getD (2 * k) D8.zero).x1 : Int), .int .u8 ((M.getD (2 * k) D8.zero).x2 : Int), .int .u8 ((M.getD (2 * k) D8.zero).x3 : Int), .int .u8 ((M.getD (2 * k) D8.zero).x4 : Int), .int .u8 ((M.getD (2 * k) D8.zero).x5 : Int), .int .u8 ((M.getD (2 * k) D8.zero).x6 : Int), .int .u8 ((M.getD (2 * k) D8.zero).x7 : Int)]) u ∧ (Instr.loadAt 31 (.pointer (some ⟨g, (2 * k + 1) * 8, none⟩))).run Tryd.prog u = .ok (.agg #[.int .u8 ((M.getD (2 * k + 1) D8.zero).x0 : Int), .int .u8 ((M.getD (2 * k + 1) D8.zero).x1 : Int), .int .u8 ((M.getD (2 * k + 1) D8.zero).x2 : Int), .int .u8 ((M.getD (2 * k + 1) D8.zero).x3 : Int), .int .u8 ((M.getD (2 * k + 1) D8.zero).x4 : Int), .int .u8 ((M.getD (2 * k + 1) D8.zero).x5 : Int), .int .u8 ((M.getD (2 * k + 1) D8.zero).x6 : Int), .int .u8 ((M.getD (2 * k + 1) D8.zero).x7 : Int)]) u) := fun u h hc => ⟨hc, h.load hk1, h.load hk2⟩
  generalize M.getD (2 * k) D8.zero = a at *
  generalize M.getD (2 * k + 1) D8.zero = b at *
  have hlg := hM.lt
  have HM' := Lib.hid hM'; have HM := Lib.hid hM
  clear hok hM hM'
  go_enter Tryd.func35, Tryd.ntmps35
  go_upto_region 1 with fail
  have hS : w.drew.cell? ⟨bt, 1 + (lev + 1), none⟩ = some (.slice (some ⟨g', 0, none⟩) m m) ∧ (Instr.loadAt 31 (.pointer (some ⟨g, 2 * k * 8, none⟩))).run Tryd.prog w.drew = .ok (.agg #[.int .u8 (a.x0 : Int), .int .u8 (a.x1 : Int), .int .u8 (a.x2 : Int), .int .u8 (a.x3 : Int), .int .u8 (a.x4 : Int), .int .u8 (a.x5 : Int), .int .u8 (a.x6 : Int), .int .u8 (a.x7 : Int)]) w.drew ∧ (Instr.loadAt 31 (.pointer (some ⟨g, (2 * k + 1) * 8, none⟩))).run Tryd.prog w.drew = .ok (.agg #[.int .u8 (b.x0 : Int), .int .u8 (b.x1 : Int), .int .u8 (b.x2 : Int), .int .u8 (b.x3 : Int), .int .u8 (b.x4 : Int), .int .u8 (b.x5 : Int), .int .u8 (b.x6 : Int), .int .u8 (b.x7 : Int)]) w.drew := ⟨h2, by go_simp, by go_simp⟩
  refine wp_region_held_drew (S := fun w' => w'.cell? ⟨bt, 1 + (lev + 1), none⟩ = some (.slice (some ⟨g', 0, none⟩) m m) ∧ (Instr.loadAt 31 (.pointer (some ⟨g, 2 * k * 8, none⟩))).run Tryd.prog w' = .ok (.agg #[.int .u8 (a.x0 : Int), .int .u8 (a.x1 : Int), .int .u8 (a.x2 : Int), .int .u8 (a.x3 : Int), .int .u8 (a.x4 : Int), .int .u8 (a.x5 : Int), .int .u8 (a.x6 : Int), .int .u8 (a.x7 : Int)]) w' ∧ (Instr.loadAt 31 (.pointer (some ⟨g, (2 * k + 1) * 8, none⟩))).run Tryd.prog w' = .ok (.agg #[.int .u8 (b.x0 : Int), .int .u8 (b.x1 : Int), .int .u8 (b.x2 : Int), .int .u8 (b.x3 : Int), .int .u8 (b.x4 : Int), .int .u8 (b.x5 : Int), .int .u8 (b.x6 : Int), .int .u8 (b.x7 : Int)]) w') (by kernel_rfl) hS (fun hHeld => ?_)
  rw [show Array.replicate _ false = (#[false, false, false, false, false, false, false, false, false, false, false, false, false, false, false, false, false, false, false, false, false] : Array Bool) from rfl]
  refine takeH 0 (some 14) (v := ?_) rfl (by kernel_rfl) (by kernel_rfl) (by kernel_rfl) (by kernel_rfl) (fun _ _ _ h => h) (Or.inl ⟨by kernel_rfl, ?hy⟩) (by assumption) ?_
  case hy =>
    intro w' hSw
    clear hSw
    first
      | (go_simp; done)
      | (go_simp; with_reducible rfl)
  simp only [Act.put, List.setIfInBounds_toArray, List.set_cons_zero, List.set_cons_succ]
  refine takeH 1 (some 15) (v := ?_) rfl (by kernel_rfl) (by kernel_rfl) (by kernel_rfl) (by kernel_rfl) (fun _ _ _ h => h) (Or.inl ⟨by kernel_rfl, ?hy⟩) (by assumption) ?_
  case hy =>
    intro w' hSw
    clear hSw
    first
      | (go_simp; done)
      | (go_simp; with_reducible rfl)
  simp only [Act.put, List.setIfInBounds_toArray, List.set_cons_zero, List.set_cons_succ]
  refine takeH 2 (some 16) (v := ?_) rfl (by kernel_rfl) (by kernel_rfl) (by kernel_rfl) (by kernel_rfl) (fun _ _ _ h => h) (Or.inl ⟨by kernel_rfl, ?hy⟩) (by assumption) ?_
  case hy =>
    intro w' hSw
    clear hSw
    first
      | (go_simp; done)
      | (go_simp; with_reducible rfl)
  simp only [Act.put, List.setIfInBounds_toArray, List.set_cons_zero, List.set_cons_succ]
  refine takeH 3 (some 17) (v := ?_) rfl (by kernel_rfl) (by kernel_rfl) (by kernel_rfl) (by kernel_rfl) (fun _ _ _ h => h) (Or.inl ⟨by kernel_rfl, ?hy⟩) (by assumption) ?_
  case hy =>
    intro w' hSw
    clear hSw
    first
      | (go_simp; done)
      | (go_simp; with_reducible rfl)
  simp only [Act.put, List.setIfInBounds_toArray, List.set_cons_zero, List.set_cons_succ]
  refine takeH 4 (some 18) (v := ?_) rfl (by kernel_rfl) (by kernel_rfl) (by kernel_rfl) (by kernel_rfl) (fun _ _ _ h => h) (Or.inl ⟨by kernel_rfl, ?hy⟩) (by assumption) ?_
  case hy =>
    intro w' hSw
    clear hSw
    first
      | (go_simp; done)
      | (go_simp; with_reducible rfl)
  simp only [Act.put, List.setIfInBounds_toArray, List.set_cons_zero, List.set_cons_succ]
  refine takeH 5 (some 19) (v := ?_) rfl (by kernel_rfl) (by kernel_rfl) (by kernel_rfl) (by kernel_rfl) (fun _ _ _ h => h) (Or.inl ⟨by kernel_rfl, ?hy⟩) (by assumption) ?_
  case hy =>
    intro w' hSw
    try dsimp only at hSw
    obtain ⟨l1, l2, l3⟩ := hSw
    first
      | (go_simp; done)
      | (go_simp; with_reducible rfl)
  simp only [Act.put, List.setIfInBounds_toArray, List.set_cons_zero, List.set_cons_succ]
  refine takeH 6 (some 20) (v := ?_) rfl (by kernel_rfl) (by kernel_rfl) (by kernel_rfl) (by kernel_rfl) (fun _ _ _ h => h) (Or.inl ⟨by kernel_rfl, ?hy⟩) (by assumption) ?_
  case hy =>
    intro w' hSw
    clear hSw
    first
      | (go_simp; done)
      | (go_simp; with_reducible rfl)
  simp only [Act.put, List.setIfInBounds_toArray, List.set_cons_zero, List.set_cons_succ]
  refine takeH 7 (some 21) (v := ?_) rfl (by kernel_rfl) (by kernel_rfl) (by kernel_rfl) (by kernel_rfl) (fun _ _ _ h => h) (Or.inl ⟨by kernel_rfl, ?hy⟩) (by assumption) ?_
  case hy =>
    intro w' hSw
    clear hSw
    first
      | (go_simp; done)
      | (go_simp; with_reducible rfl)
  simp only [Act.put, List.setIfInBounds_toArray, List.set_cons_zero, List.set_cons_succ]
  refine takeH 8 (some 22) (v := ?_) rfl (by kernel_rfl) (by kernel_rfl) (by kernel_rfl) (by kernel_rfl) (fun _ _ _ h => h) (Or.inl ⟨by kernel_rfl, ?hy⟩) (by assumption) ?_
  case hy =>
    intro w' hSw
    clear hSw
    first
      | (go_simp; done)
      | (go_simp; with_reducible rfl)
  simp only [Act.put, List.setIfInBounds_toArray, List.set_cons_zero, List.set_cons_succ]
  refine takeH 9 (some 23) (v := ?_) rfl (by kernel_rfl) (by kernel_rfl) (by kernel_rfl) (by kernel_rfl) (fun _ _ _ h => h) (Or.inl ⟨by kernel_rfl, ?hy⟩) (by assumption) ?_
  case hy =>
    intro w' hSw
    clear hSw
    first
      | (go_simp; done)
      | (go_simp; with_reducible rfl)
  simp only [Act.put, List.setIfInBounds_toArray, List.set_cons_zero, List.set_cons_succ]
  refine takeH 10 (some 24) (v := ?_) rfl (by kernel_rfl) (by kernel_rfl) (by kernel_rfl) (by kernel_rfl) (fun _ _ _ h => h) (Or.inl ⟨by kernel_rfl, ?hy⟩) (by assumption) ?_
  case hy =>
    intro w' hSw
    clear hSw
    first
      | (go_simp; done)
      | (go_simp; with_reducible rfl)
  simp only [Act.put, List.setIfInBounds_toArray, List.set_cons_zero, List.set_cons_succ]
  refine takeH 11 (some 25) (v := .agg #[.int .u8 (a.x0 : Int), .int .u8 (a.x1 : Int), .int .u8 (a.x2 : Int), .int .u8 (a.x3 : Int), .int .u8 (a.x4 : Int), .int .u8 (a.x5 : Int), .int .u8 (a.x6 : Int), .int .u8 (a.x7 : Int)]) rfl (by kernel_rfl) (by kernel_rfl) (by kernel_rfl) (by kernel_rfl) (fun _ _ _ h => h) (Or.inl ⟨by kernel_rfl, ?hy⟩) (by assumption) ?_
  case hy =>
    intro w' hSw
    try dsimp only at hSw
    obtain ⟨l1, l2, l3⟩ := hSw
    simp [execOp, Act.eval, l2, Result.andThen]
  simp only [Act.put, List.setIfInBounds_toArray, List.set_cons_zero, List.set_cons_succ]
  refine takeH 12 (some 26) (v := ?_) rfl (by kernel_rfl) (by kernel_rfl) (by kernel_rfl) (by kernel_rfl) (fun _ _ _ h => h) (Or.inl ⟨by kernel_rfl, ?hy⟩) (by assumption) ?_
  case hy =>
    intro w' hSw
    clear hSw
    first
      | (go_simp; done)
      | (go_simp; with_reducible rfl)
  simp only [Act.put, List.setIfInBounds_toArray, List.set_cons_zero, List.set_cons_succ]
  refine takeH 13 (some 27) (v := ?_) rfl (by kernel_rfl) (by kernel_rfl) (by kernel_rfl) (by kernel_rfl) (fun _ _ _ h => h) (Or.inl ⟨by kernel_rfl, ?hy⟩) (by assumption) ?_
  case hy =>
    intro w' hSw
    clear hSw
    first
      | (go_simp; done)
      | (go_simp; with_reducible rfl)
  simp only [Act.put, List.setIfInBounds_toArray, List.set_cons_zero, List.set_cons_succ]
  refine takeH 14 (some 28) (v := ?_) rfl (by kernel_rfl) (by kernel_rfl) (by kernel_rfl) (by kernel_rfl) (fun _ _ _ h => h) (Or.inl ⟨by kernel_rfl, ?hy⟩) (by assumption) ?_
  case hy =>
    intro w' hSw
    clear hSw
    first
      | (go_simp; done)
      | (go_simp; with_reducible rfl)
  simp only [Act.put, List.setIfInBounds_toArray, List.set_cons_zero, List.set_cons_succ]
  refine takeH 15 (some 29) (v := ?_) rfl (by kernel_rfl) (by kernel_rfl) (by kernel_rfl) (by kernel_rfl) (fun _ _ _ h => h) (Or.inl ⟨by kernel_rfl, ?hy⟩) (by assumption) ?_
  case hy =>
    intro w' hSw
    clear hSw
    first
      | (go_simp; done)
      | (go_simp; with_reducible rfl)
  simp only [Act.put, List.setIfInBounds_toArray, List.set_cons_zero, List.set_cons_succ]
  refine takeH 16 (some 30) (v := ?_) rfl (by kernel_rfl) (by kernel_rfl) (by kernel_rfl) (by kernel_rfl) (fun _ _ _ h => h) (Or.inl ⟨by kernel_rfl, ?hy⟩) (by assumption) ?_
  case hy =>
    intro w' hSw
    clear hSw
    first
      | (go_simp; done)
      | (go_simp; with_reducible rfl)
  simp only [Act.put, List.setIfInBounds_toArray, List.set_cons_zero, List.set_cons_succ]
  refine takeH 17 (some 31) (v := .agg #[.int .u8 (b.x0 : Int), .int .u8 (b.x1 : Int), .int .u8 (b.x2 : Int), .int .u8 (b.x3 : Int), .int .u8 (b.x4 : Int), .int .u8 (b.x5 : Int), .int .u8 (b.x6 : Int), .int .u8 (b.x7 : Int)]) rfl (by kernel_rfl) (by kernel_rfl) (by kernel_rfl) (by kernel_rfl) (fun _ _ _ h => h) (Or.inl ⟨by kernel_rfl, ?hy⟩) (by assumption) ?_
  case hy =>
    intro w' hSw
    try dsimp only at hSw
    obtain ⟨l1, l2, l3⟩ := hSw
    simp [execOp, Act.eval, l3, Result.andThen]
  simp only [Act.put, List.setIfInBounds_toArray, List.set_cons_zero, List.set_cons_succ]
  have hq := (Below.refl w.heap.size w).drew
  refine wpAnyH_ready (rs := [18]) (by kernel_rfl) (by simp) ?_
  refine AllReadyH.cons rfl (fun K hK => ?_) AllReadyH.nil
  rw [if_pos (by kernel_rfl)]
  go_simp
  refine (two_any a b w.drew Ha.out Hb.out).mono ?_
  rintro e w1 ⟨rfl, hb⟩
  have hq1 := hq.trans hb
  have HM1 := Lib.hid (HM.out.below hq1); have HN1 := Lib.hid (HM'.out.below hq1)
  have hc1 : w1.cell? ⟨bt, 1 + (lev + 1), none⟩ = some (.slice (some ⟨g', 0, none⟩) m m) := (World.cell?_of_block (hq1.block bt hbt)).trans h2
  refine hK.out _ _ (HSS.out w1 HM1.out hc1) (fun _ => ?_)
  clear hK K hb
  simp only [List.setIfInBounds_toArray, List.set_cons_zero, List.set_cons_succ]
  generalize hp : hashTwo a b = p at *
  have Hp := Lib.hid hp
  clear hp
  refine takeH 19 (some 33) (v := ?_) rfl (by kernel_rfl) (by kernel_rfl) (by kernel_rfl) (by kernel_rfl) (fun _ _ _ h => h) (Or.inl ⟨by kernel_rfl, ?hy⟩) (by assumption) ?_
  case hy =>
    intro w' hSw
    clear hSw
    first
      | (go_simp; done)
      | (go_simp; with_reducible rfl)
  simp only [Act.put, List.setIfInBounds_toArray, List.set_cons_zero, List.set_cons_succ]
  clear xf x0 x1 x2 x3 x4 x5 x6 x7 yf y0 y1 y2 y3 y4 y5 y6 y7
  obtain ⟨zf, r0, r1, r2, r3, r4, r5, r6, r7⟩ := HN1.out.at8 hk
  obtain ⟨h3, g3⟩ := HN1.out.setR hk p
  unfold set8R at h3 g3
  have hlg2 := HN1.out.lt
  have hz1 := hq1.size
  have Hq1 := Lib.hid hq1
  have Hc1 := Lib.hid hc1
  clear hq1 hq hc1
  refine wpAnyH_ready (rs := [20]) (by kernel_rfl) (by simp) ?_
  refine AllReadyH.cons rfl (fun K hK => ?_) AllReadyH.nil
  rw [if_pos (by kernel_rfl)]
  go_simp
  generalize ((((((((w1.setCell ⟨g', k * 8, none⟩ (.int .u8 (p.x0 : Int))).setCell ⟨g', k * 8 + 1, none⟩ (.int .u8 (p.x1 : Int))).setCell ⟨g', k * 8 + 2, none⟩ (.int .u8 (p.x2 : Int))).setCell ⟨g', k * 8 + 3, none⟩ (.int .u8 (p.x3 : Int))).setCell ⟨g', k * 8 + 4, none⟩ (.int .u8 (p.x4 : Int))).setCell ⟨g', k * 8 + 5, none⟩ (.int .u8 (p.x5 : Int))).setCell ⟨g', k * 8 + 6, none⟩ (.int .u8 (p.x6 : Int))).setCell ⟨g', k * 8 + 7, none⟩ (.int .u8 (p.x7 : Int))) = w2 at *
  have HN2 : Hid (DRow w2 g' m (M'.set k (hashTwo a b))) := by rw [Hp.out]; exact h3
  have HG3 : Hid (w.grownBy w2 (some g')) := ⟨g3.os.trans Hq1.out.os, g3.tape.trans Hq1.out.tape, g3.output.trans Hq1.out.output, Nat.le_trans hz1 g3.size, fun j hj hne => (g3.block j (Nat.lt_of_lt_of_le hj hz1) hne).trans (Hq1.out.block j hj)⟩
  have HM2 := Lib.hid (HM1.out.grown g3 (by intro e; injection e with e; exact hgg e.symm))
  have hbl : w2.heap[bt]? = w1.heap[bt]? := g3.block bt (Nat.lt_of_lt_of_le hbt hz1) (by intro e; injection e with e; exact hbg e)
  have hc2 : w2.cell? ⟨bt, 1 + (lev + 1), none⟩ = some (.slice (some ⟨g', 0, none⟩) m m) := (World.cell?_of_block hbl).trans Hc1.out
  refine hK.out _ _ (HSS.out w2 HM2.out hc2) (fun _ => ?_)
  clear hK K hc2 hbl h3 g3
  refine wpAnyH_done (by kernel_rfl) ?_ _
  go_wp2
  go_end0
  exact ⟨rfl, HN2.out, HG3.out⟩
end Go.Proofs.YthjpaclcoipocaaDoor
