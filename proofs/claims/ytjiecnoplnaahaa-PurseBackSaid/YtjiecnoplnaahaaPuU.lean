/- The walk of PurseBack. Conditions: bounds. -/
import Derived.Test.YtjiecnoplnaahaaPuT
import Derived.Test.YtjiecnoplnaahaaPuK3
namespace Go.Proofs.Ytjiecnoplnaahaa
open Go.RowKit Go.Lib


theorem PuO.alloc {base g n c : Nat} {p : Pu} {A : Option Addr} {w : World} (h : PuO base g p A n c w) (x : Obj) : PuO base g p A n c (w.alloc x) :=
  ⟨block_alloc h.blk x, h.own.alloc x, h.lo⟩
theorem PuO.val {base g n c : Nat} {p : Pu} {A : Option Addr} {w : World} (h : PuO base g p A n c w) (hl : p.held.length ≤ 1000000) : PuV.At p A n c w := at_own h.own hl
theorem PuO.set {base g n c : Nat} {p : Pu} {A : Option Addr} {w : World} (h : PuO base g p A n c w) {b : Nat} {cs : Array Value} {T : TypeId} (hb : w.heap[b]? = some (.cells cs T (0, 0))) (hne : b ≠ g) (hT : 56 ≠ T) (i : Nat) (v : Value) : PuO base g p A n c (w.setCell ⟨b, i, none⟩ v) :=
  ⟨((pgrown_set (w := w) b i v).block g h.lt (fun e => hne (by injection e with e; exact e.symm))).trans h.blk, own_set h.own hb hT i v, h.lo⟩
theorem PuO.new {base : Nat} {p : Pu} {A : Option Addr} {n c : Nat} {w : World} (ho : w.ownsRow base 56 11 (.slice A n c) n (flatH p.held)) (hb : base ≤ w.heap.size) : PuO base w.heap.size p A n c (w.alloc (.cells #[.int .u8 (p.nm.x0 : Int), .int .u8 (p.nm.x1 : Int), .int .u8 (p.nm.x2 : Int), .int .u8 (p.nm.x3 : Int), .int .u8 (p.nm.x4 : Int), .int .u8 (p.nm.x5 : Int), .int .u8 (p.nm.x6 : Int), .int .u8 (p.nm.x7 : Int), .int .i64 p.no, .int .i64 p.h0, .int .i64 p.h1, .slice A n c] 32)) :=
  ⟨heap_alloc_new _ _, ho.alloc _, hb⟩
def GivesO (q : Pu) (k : Int) (w : World) (e : Ending) (w' : World) : Prop :=
  ∃ A n c, e = .returned (.tuple #[.agg #[.int .u8 (q.nm.x0 : Int), .int .u8 (q.nm.x1 : Int), .int .u8 (q.nm.x2 : Int), .int .u8 (q.nm.x3 : Int), .int .u8 (q.nm.x4 : Int), .int .u8 (q.nm.x5 : Int), .int .u8 (q.nm.x6 : Int), .int .u8 (q.nm.x7 : Int), .int .i64 q.no, .int .i64 q.h0, .int .i64 q.h1, .slice A n c], .int .i64 k]) ∧ w'.ownsRow w.heap.size 56 11 (.slice A n c) n (flatH q.held) ∧ Below w.heap.size w w'
theorem givesO {r : Int × Pu} {q : Pu} {k : Int} {w : World} {e : Ending} {w' : World} (h : GivesCh r w e w') (hr : r = (k, q)) : GivesO q k w e w' := by
  subst hr; exact h
theorem PuO.setNo {base g n c : Nat} {p : Pu} {A : Option Addr} {w : World} (h : PuO base g p A n c w) (v : Int) : PuO base g ⟨p.nm, v, p.h0, p.h1, p.held⟩ A n c (w.setCell ⟨g, 8, none⟩ (.int .i64 v)) :=
  ⟨by have := Joins.block_setCell (i := 8) h.blk (.int .i64 v); simpa using this, own_set h.own h.blk (by decide) _ _, h.lo⟩
/-- The cells of a deed in a block. -/
theorem TBox.all {d : Dd} {w : World} {b : Nat} {T : TypeId} (hb : w.heap[b]? = some (.cells #[.int .u8 (d.w : Int), .int .u8 (d.nm.x0 : Int), .int .u8 (d.nm.x1 : Int), .int .u8 (d.nm.x2 : Int), .int .u8 (d.nm.x3 : Int), .int .u8 (d.nm.x4 : Int), .int .u8 (d.nm.x5 : Int), .int .u8 (d.nm.x6 : Int), .int .u8 (d.nm.x7 : Int), .int .i64 d.am, .int .i64 d.fr, .int .i64 d.un] T (0, 0))) :
    w.cell? ⟨b, 0, none⟩ = some (.int .u8 (d.w : Int)) ∧ w.cell? ⟨b, 1, none⟩ = some (.int .u8 (d.nm.x0 : Int)) ∧ w.cell? ⟨b, 2, none⟩ = some (.int .u8 (d.nm.x1 : Int)) ∧ w.cell? ⟨b, 3, none⟩ = some (.int .u8 (d.nm.x2 : Int)) ∧ w.cell? ⟨b, 4, none⟩ = some (.int .u8 (d.nm.x3 : Int)) ∧
    w.cell? ⟨b, 5, none⟩ = some (.int .u8 (d.nm.x4 : Int)) ∧ w.cell? ⟨b, 6, none⟩ = some (.int .u8 (d.nm.x5 : Int)) ∧ w.cell? ⟨b, 7, none⟩ = some (.int .u8 (d.nm.x6 : Int)) ∧ w.cell? ⟨b, 8, none⟩ = some (.int .u8 (d.nm.x7 : Int)) ∧
    w.cell? ⟨b, 9, none⟩ = some (.int .i64 d.am) ∧ w.cell? ⟨b, 10, none⟩ = some (.int .i64 d.fr) ∧ w.cell? ⟨b, 11, none⟩ = some (.int .i64 d.un) :=
  ⟨block_cell hb 0, block_cell hb 1, block_cell hb 2, block_cell hb 3, block_cell hb 4, block_cell hb 5, block_cell hb 6, block_cell hb 7, block_cell hb 8, block_cell hb 9, block_cell hb 10, block_cell hb 11⟩
set_option maxRecDepth 100000 in
set_option maxHeartbeats 8000000 in
theorem purseBack_any (p : Pu) (A : Option Addr) (n c : Nat) (h o : Dd) (w : World) (hr : Rd w w.heap.size 11 A n (flatH p.held)) (hcap : n ≤ c) (hw : o.w < 256) :
    Calls Try.prog 6 #[.agg #[.int .u8 (p.nm.x0 : Int), .int .u8 (p.nm.x1 : Int), .int .u8 (p.nm.x2 : Int), .int .u8 (p.nm.x3 : Int), .int .u8 (p.nm.x4 : Int), .int .u8 (p.nm.x5 : Int), .int .u8 (p.nm.x6 : Int), .int .u8 (p.nm.x7 : Int), .int .i64 p.no, .int .i64 p.h0, .int .i64 p.h1, .slice A n c], .agg #[.int .u8 (h.w : Int), .int .u8 (h.nm.x0 : Int), .int .u8 (h.nm.x1 : Int), .int .u8 (h.nm.x2 : Int), .int .u8 (h.nm.x3 : Int), .int .u8 (h.nm.x4 : Int), .int .u8 (h.nm.x5 : Int), .int .u8 (h.nm.x6 : Int), .int .u8 (h.nm.x7 : Int), .int .i64 h.am, .int .i64 h.fr, .int .i64 h.un], .agg #[.int .u8 (o.w : Int), .int .u8 (o.nm.x0 : Int), .int .u8 (o.nm.x1 : Int), .int .u8 (o.nm.x2 : Int), .int .u8 (o.nm.x3 : Int), .int .u8 (o.nm.x4 : Int), .int .u8 (o.nm.x5 : Int), .int .u8 (o.nm.x6 : Int), .int .u8 (o.nm.x7 : Int), .int .i64 o.am, .int .i64 o.fr, .int .i64 o.un]] w fun e w' => e = .returned (.bool true) ∧ Below w.heap.size w w' := by
  have heq := eql_digR
  have HBp : Hid ((((w.alloc (.cells #[.int .u8 (p.nm.x0 : Int), .int .u8 (p.nm.x1 : Int), .int .u8 (p.nm.x2 : Int), .int .u8 (p.nm.x3 : Int), .int .u8 (p.nm.x4 : Int), .int .u8 (p.nm.x5 : Int), .int .u8 (p.nm.x6 : Int), .int .u8 (p.nm.x7 : Int), .int .i64 p.no, .int .i64 p.h0, .int .i64 p.h1, .slice A n c] 26)).alloc (.cells #[.int .u8 (h.w : Int), .int .u8 (h.nm.x0 : Int), .int .u8 (h.nm.x1 : Int), .int .u8 (h.nm.x2 : Int), .int .u8 (h.nm.x3 : Int), .int .u8 (h.nm.x4 : Int), .int .u8 (h.nm.x5 : Int), .int .u8 (h.nm.x6 : Int), .int .u8 (h.nm.x7 : Int), .int .i64 h.am, .int .i64 h.fr, .int .i64 h.un] 43)).alloc (.cells #[.int .u8 (o.w : Int), .int .u8 (o.nm.x0 : Int), .int .u8 (o.nm.x1 : Int), .int .u8 (o.nm.x2 : Int), .int .u8 (o.nm.x3 : Int), .int .u8 (o.nm.x4 : Int), .int .u8 (o.nm.x5 : Int), .int .u8 (o.nm.x6 : Int), .int .u8 (o.nm.x7 : Int), .int .i64 o.am, .int .i64 o.fr, .int .i64 o.un] 43)).heap[w.heap.size]? = some (.cells #[.int .u8 (p.nm.x0 : Int), .int .u8 (p.nm.x1 : Int), .int .u8 (p.nm.x2 : Int), .int .u8 (p.nm.x3 : Int), .int .u8 (p.nm.x4 : Int), .int .u8 (p.nm.x5 : Int), .int .u8 (p.nm.x6 : Int), .int .u8 (p.nm.x7 : Int), .int .i64 p.no, .int .i64 p.h0, .int .i64 p.h1, .slice A n c] 26 (0, 0))) := block_alloc (block_alloc (heap_alloc_new _ _) _) _
  have HBh : Hid ((((w.alloc (.cells #[.int .u8 (p.nm.x0 : Int), .int .u8 (p.nm.x1 : Int), .int .u8 (p.nm.x2 : Int), .int .u8 (p.nm.x3 : Int), .int .u8 (p.nm.x4 : Int), .int .u8 (p.nm.x5 : Int), .int .u8 (p.nm.x6 : Int), .int .u8 (p.nm.x7 : Int), .int .i64 p.no, .int .i64 p.h0, .int .i64 p.h1, .slice A n c] 26)).alloc (.cells #[.int .u8 (h.w : Int), .int .u8 (h.nm.x0 : Int), .int .u8 (h.nm.x1 : Int), .int .u8 (h.nm.x2 : Int), .int .u8 (h.nm.x3 : Int), .int .u8 (h.nm.x4 : Int), .int .u8 (h.nm.x5 : Int), .int .u8 (h.nm.x6 : Int), .int .u8 (h.nm.x7 : Int), .int .i64 h.am, .int .i64 h.fr, .int .i64 h.un] 43)).alloc (.cells #[.int .u8 (o.w : Int), .int .u8 (o.nm.x0 : Int), .int .u8 (o.nm.x1 : Int), .int .u8 (o.nm.x2 : Int), .int .u8 (o.nm.x3 : Int), .int .u8 (o.nm.x4 : Int), .int .u8 (o.nm.x5 : Int), .int .u8 (o.nm.x6 : Int), .int .u8 (o.nm.x7 : Int), .int .i64 o.am, .int .i64 o.fr, .int .i64 o.un] 43)).heap[w.heap.size + 1]? = some (.cells #[.int .u8 (h.w : Int), .int .u8 (h.nm.x0 : Int), .int .u8 (h.nm.x1 : Int), .int .u8 (h.nm.x2 : Int), .int .u8 (h.nm.x3 : Int), .int .u8 (h.nm.x4 : Int), .int .u8 (h.nm.x5 : Int), .int .u8 (h.nm.x6 : Int), .int .u8 (h.nm.x7 : Int), .int .i64 h.am, .int .i64 h.fr, .int .i64 h.un] 43 (0, 0))) := block_alloc (alloc_at (by simp)) _
  have HBo : Hid ((((w.alloc (.cells #[.int .u8 (p.nm.x0 : Int), .int .u8 (p.nm.x1 : Int), .int .u8 (p.nm.x2 : Int), .int .u8 (p.nm.x3 : Int), .int .u8 (p.nm.x4 : Int), .int .u8 (p.nm.x5 : Int), .int .u8 (p.nm.x6 : Int), .int .u8 (p.nm.x7 : Int), .int .i64 p.no, .int .i64 p.h0, .int .i64 p.h1, .slice A n c] 26)).alloc (.cells #[.int .u8 (h.w : Int), .int .u8 (h.nm.x0 : Int), .int .u8 (h.nm.x1 : Int), .int .u8 (h.nm.x2 : Int), .int .u8 (h.nm.x3 : Int), .int .u8 (h.nm.x4 : Int), .int .u8 (h.nm.x5 : Int), .int .u8 (h.nm.x6 : Int), .int .u8 (h.nm.x7 : Int), .int .i64 h.am, .int .i64 h.fr, .int .i64 h.un] 43)).alloc (.cells #[.int .u8 (o.w : Int), .int .u8 (o.nm.x0 : Int), .int .u8 (o.nm.x1 : Int), .int .u8 (o.nm.x2 : Int), .int .u8 (o.nm.x3 : Int), .int .u8 (o.nm.x4 : Int), .int .u8 (o.nm.x5 : Int), .int .u8 (o.nm.x6 : Int), .int .u8 (o.nm.x7 : Int), .int .i64 o.am, .int .i64 o.fr, .int .i64 o.un] 43)).heap[w.heap.size + 2]? = some (.cells #[.int .u8 (o.w : Int), .int .u8 (o.nm.x0 : Int), .int .u8 (o.nm.x1 : Int), .int .u8 (o.nm.x2 : Int), .int .u8 (o.nm.x3 : Int), .int .u8 (o.nm.x4 : Int), .int .u8 (o.nm.x5 : Int), .int .u8 (o.nm.x6 : Int), .int .u8 (o.nm.x7 : Int), .int .i64 o.am, .int .i64 o.fr, .int .i64 o.un] 43 (0, 0))) := alloc_at (by simp)
  have HW : Hid (Below w.heap.size w (((w.alloc (.cells #[.int .u8 (p.nm.x0 : Int), .int .u8 (p.nm.x1 : Int), .int .u8 (p.nm.x2 : Int), .int .u8 (p.nm.x3 : Int), .int .u8 (p.nm.x4 : Int), .int .u8 (p.nm.x5 : Int), .int .u8 (p.nm.x6 : Int), .int .u8 (p.nm.x7 : Int), .int .i64 p.no, .int .i64 p.h0, .int .i64 p.h1, .slice A n c] 26)).alloc (.cells #[.int .u8 (h.w : Int), .int .u8 (h.nm.x0 : Int), .int .u8 (h.nm.x1 : Int), .int .u8 (h.nm.x2 : Int), .int .u8 (h.nm.x3 : Int), .int .u8 (h.nm.x4 : Int), .int .u8 (h.nm.x5 : Int), .int .u8 (h.nm.x6 : Int), .int .u8 (h.nm.x7 : Int), .int .i64 h.am, .int .i64 h.fr, .int .i64 h.un] 43)).alloc (.cells #[.int .u8 (o.w : Int), .int .u8 (o.nm.x0 : Int), .int .u8 (o.nm.x1 : Int), .int .u8 (o.nm.x2 : Int), .int .u8 (o.nm.x3 : Int), .int .u8 (o.nm.x4 : Int), .int .u8 (o.nm.x5 : Int), .int .u8 (o.nm.x6 : Int), .int .u8 (o.nm.x7 : Int), .int .i64 o.am, .int .i64 o.fr, .int .i64 o.un] 43))) := (below_two w _ _).alloc (by simp; omega) _
  by_cases h40 : 40 < n
  · have b1 : decide (40 < n) = true := decide_eq_true h40
    clear hr hcap h40
    go_enter Try.func6, Try.ntmps6
    go_wp2_with fail
    refine (great_any p A n c _).mono ?_
    rintro e w1 ⟨rfl, hb1⟩
    (try replace HBp := Lib.hid (block_below HBp.out hb1 (block_lt HBp.out)))
    (try replace HBh := Lib.hid (block_below HBh.out hb1 (block_lt HBh.out)))
    (try replace HBo := Lib.hid (block_below HBo.out hb1 (block_lt HBo.out)))
    (try replace HPx := Lib.hid (HPx.out.below hb1))
    (try replace HPq := Lib.hid (HPq.out.below hb1))
    (try replace HPa := Lib.hid (HPa.out.below hb1))
    (try replace HPb := Lib.hid (HPb.out.below hb1))
    (try replace HPc := Lib.hid (HPc.out.below hb1))
    (try replace HPd := Lib.hid (HPd.out.below hb1))
    replace HW := Lib.hid (HW.out.trans (hb1.mono HW.out.size))
    clear hb1
    obtain ⟨y0, y1, y2, y3, y4, y5, y6, y7, y8, y9, y10, y11⟩ := TBox.all HBh.out
    obtain ⟨z0, z1, z2, z3, z4, z5, z6, z7, z8, z9, z10, z11⟩ := TBox.all HBo.out
    go_wp2_with fail
    refine (told_any _).mono ?_
    rintro e wt ⟨rfl, hbt⟩
    replace HW := Lib.hid (HW.out.trans (hbt.mono HW.out.size))
    clear hbt
    go_wp2
    go_ret
    exact ⟨rfl, HW.out⟩
  have b1 : decide (40 < n) = false := decide_eq_false h40
  by_cases hE : eqI h.nm.L o.nm.L = true
  · have b2 : eqI [(h.nm.x0 : Int), (h.nm.x1 : Int), (h.nm.x2 : Int), (h.nm.x3 : Int), (h.nm.x4 : Int), (h.nm.x5 : Int), (h.nm.x6 : Int), (h.nm.x7 : Int)] [(o.nm.x0 : Int), (o.nm.x1 : Int), (o.nm.x2 : Int), (o.nm.x3 : Int), (o.nm.x4 : Int), (o.nm.x5 : Int), (o.nm.x6 : Int), (o.nm.x7 : Int)] = true := hE
    clear hr hcap h40 hE
    go_enter Try.func6, Try.ntmps6
    go_wp2_with fail
    refine (great_any p A n c _).mono ?_
    rintro e w1 ⟨rfl, hb1⟩
    (try replace HBp := Lib.hid (block_below HBp.out hb1 (block_lt HBp.out)))
    (try replace HBh := Lib.hid (block_below HBh.out hb1 (block_lt HBh.out)))
    (try replace HBo := Lib.hid (block_below HBo.out hb1 (block_lt HBo.out)))
    (try replace HPx := Lib.hid (HPx.out.below hb1))
    (try replace HPq := Lib.hid (HPq.out.below hb1))
    (try replace HPa := Lib.hid (HPa.out.below hb1))
    (try replace HPb := Lib.hid (HPb.out.below hb1))
    (try replace HPc := Lib.hid (HPc.out.below hb1))
    (try replace HPd := Lib.hid (HPd.out.below hb1))
    replace HW := Lib.hid (HW.out.trans (hb1.mono HW.out.size))
    clear hb1
    obtain ⟨y0, y1, y2, y3, y4, y5, y6, y7, y8, y9, y10, y11⟩ := TBox.all HBh.out
    obtain ⟨z0, z1, z2, z3, z4, z5, z6, z7, z8, z9, z10, z11⟩ := TBox.all HBo.out
    go_wp2_with fail
    refine (told_any _).mono ?_
    rintro e wt ⟨rfl, hbt⟩
    replace HW := Lib.hid (HW.out.trans (hbt.mono HW.out.size))
    clear hbt
    go_wp2
    go_ret
    exact ⟨rfl, HW.out⟩
  have hE' : eqI h.nm.L o.nm.L = false := by simpa using hE
  have b2 : eqI [(h.nm.x0 : Int), (h.nm.x1 : Int), (h.nm.x2 : Int), (h.nm.x3 : Int), (h.nm.x4 : Int), (h.nm.x5 : Int), (h.nm.x6 : Int), (h.nm.x7 : Int)] [(o.nm.x0 : Int), (o.nm.x1 : Int), (o.nm.x2 : Int), (o.nm.x3 : Int), (o.nm.x4 : Int), (o.nm.x5 : Int), (o.nm.x6 : Int), (o.nm.x7 : Int)] = false := hE'
  clear hE'
  have hw0 : (0 : Int) ≤ (o.w : Int) := by omega
  have hw1 : (o.w : Int) ≤ 255 := by omega
  by_cases h0 : o.w % 4 = 0
  · have b3 : ((o.w : Int) % 4 == 0) = true := by rw [beq_iff_eq]; omega
    clear hr hcap h40 hE
    go_enter Try.func6, Try.ntmps6
    go_wp2_with fail
    refine (great_any p A n c _).mono ?_
    rintro e w1 ⟨rfl, hb1⟩
    (try replace HBp := Lib.hid (block_below HBp.out hb1 (block_lt HBp.out)))
    (try replace HBh := Lib.hid (block_below HBh.out hb1 (block_lt HBh.out)))
    (try replace HBo := Lib.hid (block_below HBo.out hb1 (block_lt HBo.out)))
    (try replace HPx := Lib.hid (HPx.out.below hb1))
    (try replace HPq := Lib.hid (HPq.out.below hb1))
    (try replace HPa := Lib.hid (HPa.out.below hb1))
    (try replace HPb := Lib.hid (HPb.out.below hb1))
    (try replace HPc := Lib.hid (HPc.out.below hb1))
    (try replace HPd := Lib.hid (HPd.out.below hb1))
    replace HW := Lib.hid (HW.out.trans (hb1.mono HW.out.size))
    clear hb1
    obtain ⟨y0, y1, y2, y3, y4, y5, y6, y7, y8, y9, y10, y11⟩ := TBox.all HBh.out
    obtain ⟨z0, z1, z2, z3, z4, z5, z6, z7, z8, z9, z10, z11⟩ := TBox.all HBo.out
    go_wp2_with fail
    refine (told_any _).mono ?_
    rintro e wt ⟨rfl, hbt⟩
    replace HW := Lib.hid (HW.out.trans (hbt.mono HW.out.size))
    clear hbt
    go_wp2
    go_ret
    exact ⟨rfl, HW.out⟩
  have b3 : ((o.w : Int) % 4 == 0) = false := by rw [beq_eq_false_iff_ne]; omega
  by_cases h1 : o.w % 4 = 1
  · have b4 : ((o.w : Int) % 4 == 1) = true := by rw [beq_iff_eq]; omega
    clear hr hcap h40 hE
    go_enter Try.func6, Try.ntmps6
    go_wp2_with fail
    refine (great_any p A n c _).mono ?_
    rintro e w1 ⟨rfl, hb1⟩
    (try replace HBp := Lib.hid (block_below HBp.out hb1 (block_lt HBp.out)))
    (try replace HBh := Lib.hid (block_below HBh.out hb1 (block_lt HBh.out)))
    (try replace HBo := Lib.hid (block_below HBo.out hb1 (block_lt HBo.out)))
    (try replace HPx := Lib.hid (HPx.out.below hb1))
    (try replace HPq := Lib.hid (HPq.out.below hb1))
    (try replace HPa := Lib.hid (HPa.out.below hb1))
    (try replace HPb := Lib.hid (HPb.out.below hb1))
    (try replace HPc := Lib.hid (HPc.out.below hb1))
    (try replace HPd := Lib.hid (HPd.out.below hb1))
    replace HW := Lib.hid (HW.out.trans (hb1.mono HW.out.size))
    clear hb1
    obtain ⟨y0, y1, y2, y3, y4, y5, y6, y7, y8, y9, y10, y11⟩ := TBox.all HBh.out
    obtain ⟨z0, z1, z2, z3, z4, z5, z6, z7, z8, z9, z10, z11⟩ := TBox.all HBo.out
    go_wp2_with fail
    refine (told_any _).mono ?_
    rintro e wt ⟨rfl, hbt⟩
    replace HW := Lib.hid (HW.out.trans (hbt.mono HW.out.size))
    clear hbt
    go_wp2
    go_ret
    exact ⟨rfl, HW.out⟩
  have b4 : ((o.w : Int) % 4 == 1) = false := by rw [beq_eq_false_iff_ne]; omega
  have hnm : h.nm ≠ o.nm := fun e => hE (eqI_iff8.2 e)
  have HA : Hid (PuV.At p A n c w) := ⟨hr, hcap, by omega⟩
  have HA3 := Lib.hid (HA.out.up HW.out)
  have Hlaw := Lib.hid (given_back (p := p) (h := ⟨h.nm, h.am, h.fr, h.un⟩))
  have Hoth := Lib.hid (fun e hno => other_deed (p := p) (h := ⟨h.nm, h.am, h.fr, h.un⟩) e hno (o := o) h0 h1 hnm)
  have hpl : p.held.length ≤ 1000000 := by have := hr.hlen; omega
  clear hr hcap hE h0 h1 hnm
  go_enter Try.func6, Try.ntmps6
  go_wp2_with fail
  refine (great_any p A n c _).mono ?_
  rintro e w1 ⟨rfl, hb1⟩
  replace HA3 := Lib.hid (HA3.out.up hb1)
  (try replace HBp := Lib.hid (block_below HBp.out hb1 (block_lt HBp.out)))
  (try replace HBh := Lib.hid (block_below HBh.out hb1 (block_lt HBh.out)))
  (try replace HBo := Lib.hid (block_below HBo.out hb1 (block_lt HBo.out)))
  (try replace HPx := Lib.hid (HPx.out.below hb1))
  (try replace HPq := Lib.hid (HPq.out.below hb1))
  (try replace HPa := Lib.hid (HPa.out.below hb1))
  (try replace HPb := Lib.hid (HPb.out.below hb1))
  (try replace HPc := Lib.hid (HPc.out.below hb1))
  (try replace HPd := Lib.hid (HPd.out.below hb1))
  replace HW := Lib.hid (HW.out.trans (hb1.mono HW.out.size))
  clear hb1
  obtain ⟨y0, y1, y2, y3, y4, y5, y6, y7, y8, y9, y10, y11⟩ := TBox.all HBh.out
  obtain ⟨z0, z1, z2, z3, z4, z5, z6, z7, z8, z9, z10, z11⟩ := TBox.all HBo.out
  obtain ⟨x0, x1, x2, x3, x4, x5, x6, x7, x8, x9, x10, x11⟩ := PBox.all HBp.out
  go_wp2_with fail
  refine (own_any p A n c w1 HA3.out).mono ?_
  rintro e w2 ⟨A2, n2, c2, rfl, ho2, hb2⟩
  replace ho2 := pown_down ho2 HW.out.size
  clear x0 x1 x2 x3 x4 x5 x6 x7 x8 x9 x10 x11 y0 y1 y2 y3 y4 y5 y6 y7 y8 y9 y10 y11 z0 z1 z2 z3 z4 z5 z6 z7 z8 z9 z10 z11
  clear HA3 HA
  (try replace HBp := Lib.hid (block_below HBp.out hb2 (block_lt HBp.out)))
  (try replace HBh := Lib.hid (block_below HBh.out hb2 (block_lt HBh.out)))
  (try replace HBo := Lib.hid (block_below HBo.out hb2 (block_lt HBo.out)))
  (try replace HPx := Lib.hid (HPx.out.below hb2))
  (try replace HPq := Lib.hid (HPq.out.below hb2))
  (try replace HPa := Lib.hid (HPa.out.below hb2))
  (try replace HPb := Lib.hid (HPb.out.below hb2))
  (try replace HPc := Lib.hid (HPc.out.below hb2))
  (try replace HPd := Lib.hid (HPd.out.below hb2))
  replace HW := Lib.hid (HW.out.trans (hb2.mono HW.out.size))
  clear hb2
  have hs2 : w.heap.size + 2 < w2.heap.size := block_lt HBo.out
  have hHB := HBh.out
  have yf := block_free hHB
  obtain ⟨y0, y1, y2, y3, y4, y5, y6, y7, y8, y9, y10, y11⟩ := TBox.all hHB
  have hgl := block_lt hHB
  have hz2 : (w2.setCell ⟨w.heap.size + 1, 0, none⟩ (.int .u8 1)).heap.size = w2.heap.size := by simp
  replace ho2 := own_set ho2 hHB (by decide) 0 (.int .u8 1)
  replace HBp := Lib.hid (((pgrown_set (w := w2) (w.heap.size + 1) 0 (.int .u8 1)).block w.heap.size (block_lt HBp.out) (by simp)).trans HBp.out)
  replace HBo := Lib.hid (((pgrown_set (w := w2) (w.heap.size + 1) 0 (.int .u8 1)).block (w.heap.size + 2) (block_lt HBo.out) (by simp)).trans HBo.out)
  have hBh := Joins.block_setCell (i := 0) hHB (.int .u8 1)
  simp at hBh
  replace HBh : Hid ((w2.setCell ⟨w.heap.size + 1, 0, none⟩ (.int .u8 1)).heap[w.heap.size + 1]? = some (.cells #[.int .u8 ((⟨1, h.nm, h.am, h.fr, h.un⟩ : Dd).w : Int), .int .u8 ((⟨1, h.nm, h.am, h.fr, h.un⟩ : Dd).nm.x0 : Int), .int .u8 ((⟨1, h.nm, h.am, h.fr, h.un⟩ : Dd).nm.x1 : Int), .int .u8 ((⟨1, h.nm, h.am, h.fr, h.un⟩ : Dd).nm.x2 : Int), .int .u8 ((⟨1, h.nm, h.am, h.fr, h.un⟩ : Dd).nm.x3 : Int), .int .u8 ((⟨1, h.nm, h.am, h.fr, h.un⟩ : Dd).nm.x4 : Int), .int .u8 ((⟨1, h.nm, h.am, h.fr, h.un⟩ : Dd).nm.x5 : Int), .int .u8 ((⟨1, h.nm, h.am, h.fr, h.un⟩ : Dd).nm.x6 : Int), .int .u8 ((⟨1, h.nm, h.am, h.fr, h.un⟩ : Dd).nm.x7 : Int), .int .i64 (⟨1, h.nm, h.am, h.fr, h.un⟩ : Dd).am, .int .i64 (⟨1, h.nm, h.am, h.fr, h.un⟩ : Dd).fr, .int .i64 (⟨1, h.nm, h.am, h.fr, h.un⟩ : Dd).un] 43 (0, 0))) := hBh
  replace HW := Lib.hid (HW.out.setCell (p := ⟨w.heap.size + 1, 0, none⟩) (by simp) (.int .u8 1))
  have hN := PuO.new ho2 HW.out.size
  rw [hz2] at hN
  have HN := Lib.hid hN
  clear hN ho2 hHB hBh hz2
  (try replace HBp := Lib.hid (block_alloc HBp.out (.cells #[.int .u8 (p.nm.x0 : Int), .int .u8 (p.nm.x1 : Int), .int .u8 (p.nm.x2 : Int), .int .u8 (p.nm.x3 : Int), .int .u8 (p.nm.x4 : Int), .int .u8 (p.nm.x5 : Int), .int .u8 (p.nm.x6 : Int), .int .u8 (p.nm.x7 : Int), .int .i64 p.no, .int .i64 p.h0, .int .i64 p.h1, .slice A2 n2 c2] 32)))
  (try replace HBh := Lib.hid (block_alloc HBh.out (.cells #[.int .u8 (p.nm.x0 : Int), .int .u8 (p.nm.x1 : Int), .int .u8 (p.nm.x2 : Int), .int .u8 (p.nm.x3 : Int), .int .u8 (p.nm.x4 : Int), .int .u8 (p.nm.x5 : Int), .int .u8 (p.nm.x6 : Int), .int .u8 (p.nm.x7 : Int), .int .i64 p.no, .int .i64 p.h0, .int .i64 p.h1, .slice A2 n2 c2] 32)))
  (try replace HBo := Lib.hid (block_alloc HBo.out (.cells #[.int .u8 (p.nm.x0 : Int), .int .u8 (p.nm.x1 : Int), .int .u8 (p.nm.x2 : Int), .int .u8 (p.nm.x3 : Int), .int .u8 (p.nm.x4 : Int), .int .u8 (p.nm.x5 : Int), .int .u8 (p.nm.x6 : Int), .int .u8 (p.nm.x7 : Int), .int .i64 p.no, .int .i64 p.h0, .int .i64 p.h1, .slice A2 n2 c2] 32)))
  (try replace HPx := Lib.hid (HPx.out.alloc (.cells #[.int .u8 (p.nm.x0 : Int), .int .u8 (p.nm.x1 : Int), .int .u8 (p.nm.x2 : Int), .int .u8 (p.nm.x3 : Int), .int .u8 (p.nm.x4 : Int), .int .u8 (p.nm.x5 : Int), .int .u8 (p.nm.x6 : Int), .int .u8 (p.nm.x7 : Int), .int .i64 p.no, .int .i64 p.h0, .int .i64 p.h1, .slice A2 n2 c2] 32)))
  (try replace HPq := Lib.hid (HPq.out.alloc (.cells #[.int .u8 (p.nm.x0 : Int), .int .u8 (p.nm.x1 : Int), .int .u8 (p.nm.x2 : Int), .int .u8 (p.nm.x3 : Int), .int .u8 (p.nm.x4 : Int), .int .u8 (p.nm.x5 : Int), .int .u8 (p.nm.x6 : Int), .int .u8 (p.nm.x7 : Int), .int .i64 p.no, .int .i64 p.h0, .int .i64 p.h1, .slice A2 n2 c2] 32)))
  (try replace HPa := Lib.hid (HPa.out.alloc (.cells #[.int .u8 (p.nm.x0 : Int), .int .u8 (p.nm.x1 : Int), .int .u8 (p.nm.x2 : Int), .int .u8 (p.nm.x3 : Int), .int .u8 (p.nm.x4 : Int), .int .u8 (p.nm.x5 : Int), .int .u8 (p.nm.x6 : Int), .int .u8 (p.nm.x7 : Int), .int .i64 p.no, .int .i64 p.h0, .int .i64 p.h1, .slice A2 n2 c2] 32)))
  (try replace HPb := Lib.hid (HPb.out.alloc (.cells #[.int .u8 (p.nm.x0 : Int), .int .u8 (p.nm.x1 : Int), .int .u8 (p.nm.x2 : Int), .int .u8 (p.nm.x3 : Int), .int .u8 (p.nm.x4 : Int), .int .u8 (p.nm.x5 : Int), .int .u8 (p.nm.x6 : Int), .int .u8 (p.nm.x7 : Int), .int .i64 p.no, .int .i64 p.h0, .int .i64 p.h1, .slice A2 n2 c2] 32)))
  (try replace HPc := Lib.hid (HPc.out.alloc (.cells #[.int .u8 (p.nm.x0 : Int), .int .u8 (p.nm.x1 : Int), .int .u8 (p.nm.x2 : Int), .int .u8 (p.nm.x3 : Int), .int .u8 (p.nm.x4 : Int), .int .u8 (p.nm.x5 : Int), .int .u8 (p.nm.x6 : Int), .int .u8 (p.nm.x7 : Int), .int .i64 p.no, .int .i64 p.h0, .int .i64 p.h1, .slice A2 n2 c2] 32)))
  (try replace HPd := Lib.hid (HPd.out.alloc (.cells #[.int .u8 (p.nm.x0 : Int), .int .u8 (p.nm.x1 : Int), .int .u8 (p.nm.x2 : Int), .int .u8 (p.nm.x3 : Int), .int .u8 (p.nm.x4 : Int), .int .u8 (p.nm.x5 : Int), .int .u8 (p.nm.x6 : Int), .int .u8 (p.nm.x7 : Int), .int .i64 p.no, .int .i64 p.h0, .int .i64 p.h1, .slice A2 n2 c2] 32)))
  replace HW := Lib.hid (HW.out.alloc HW.out.size (.cells #[.int .u8 (p.nm.x0 : Int), .int .u8 (p.nm.x1 : Int), .int .u8 (p.nm.x2 : Int), .int .u8 (p.nm.x3 : Int), .int .u8 (p.nm.x4 : Int), .int .u8 (p.nm.x5 : Int), .int .u8 (p.nm.x6 : Int), .int .u8 (p.nm.x7 : Int), .int .i64 p.no, .int .i64 p.h0, .int .i64 p.h1, .slice A2 n2 c2] 32))
  have HPx := HN; clear HN
  go_wp2_with fail
  clear y0 y1 y2 y3 y4 y5 y6 y7 y8 y9 y10 y11 yf hgl
  have Hd1 : Hid (p.deed ⟨1, h.nm, h.am, h.fr, h.un⟩ = p.hold ⟨h.nm, h.am, h.fr, h.un⟩) := deed1 rfl
  have hql := deed_len (p := p) (d := ⟨1, h.nm, h.am, h.fr, h.un⟩)
  rw [Hd1.out] at hql
  have Hok := Lib.hid (fun e => hold_ok (p := p) (h := ⟨h.nm, h.am, h.fr, h.un⟩) e)
  refine (do_any p A2 n2 c2 ⟨1, h.nm, h.am, h.fr, h.un⟩ _ (HPx.out.val hpl) (by show (1 : Nat) < 256; omega)).mono ?_
  rw [Hd1.out]
  rintro e w3 ⟨A3, n3, c3, rfl, ho3, hb3⟩
  have s23 : w2.heap.size < w3.heap.size := by have := hb3.size; simp at this; omega
  replace ho3 := pown_down ho3 HW.out.size
  (try replace HBp := Lib.hid (block_below HBp.out hb3 (block_lt HBp.out)))
  (try replace HBh := Lib.hid (block_below HBh.out hb3 (block_lt HBh.out)))
  (try replace HBo := Lib.hid (block_below HBo.out hb3 (block_lt HBo.out)))
  (try replace HPx := Lib.hid (HPx.out.below hb3))
  (try replace HPq := Lib.hid (HPq.out.below hb3))
  (try replace HPa := Lib.hid (HPa.out.below hb3))
  (try replace HPb := Lib.hid (HPb.out.below hb3))
  (try replace HPc := Lib.hid (HPc.out.below hb3))
  (try replace HPd := Lib.hid (HPd.out.below hb3))
  replace HW := Lib.hid (HW.out.trans (hb3.mono HW.out.size))
  clear hb3
  clear Hd1
  generalize p.hold ⟨h.nm, h.am, h.fr, h.un⟩ = rr at *
  obtain ⟨e1, q⟩ := rr
  simp only at *
  have HN := Lib.hid (PuO.new ho3 HW.out.size)
  (try replace HBp := Lib.hid (block_alloc HBp.out (.cells #[.int .u8 (q.nm.x0 : Int), .int .u8 (q.nm.x1 : Int), .int .u8 (q.nm.x2 : Int), .int .u8 (q.nm.x3 : Int), .int .u8 (q.nm.x4 : Int), .int .u8 (q.nm.x5 : Int), .int .u8 (q.nm.x6 : Int), .int .u8 (q.nm.x7 : Int), .int .i64 q.no, .int .i64 q.h0, .int .i64 q.h1, .slice A3 n3 c3] 32)))
  (try replace HBh := Lib.hid (block_alloc HBh.out (.cells #[.int .u8 (q.nm.x0 : Int), .int .u8 (q.nm.x1 : Int), .int .u8 (q.nm.x2 : Int), .int .u8 (q.nm.x3 : Int), .int .u8 (q.nm.x4 : Int), .int .u8 (q.nm.x5 : Int), .int .u8 (q.nm.x6 : Int), .int .u8 (q.nm.x7 : Int), .int .i64 q.no, .int .i64 q.h0, .int .i64 q.h1, .slice A3 n3 c3] 32)))
  (try replace HBo := Lib.hid (block_alloc HBo.out (.cells #[.int .u8 (q.nm.x0 : Int), .int .u8 (q.nm.x1 : Int), .int .u8 (q.nm.x2 : Int), .int .u8 (q.nm.x3 : Int), .int .u8 (q.nm.x4 : Int), .int .u8 (q.nm.x5 : Int), .int .u8 (q.nm.x6 : Int), .int .u8 (q.nm.x7 : Int), .int .i64 q.no, .int .i64 q.h0, .int .i64 q.h1, .slice A3 n3 c3] 32)))
  (try replace HPx := Lib.hid (HPx.out.alloc (.cells #[.int .u8 (q.nm.x0 : Int), .int .u8 (q.nm.x1 : Int), .int .u8 (q.nm.x2 : Int), .int .u8 (q.nm.x3 : Int), .int .u8 (q.nm.x4 : Int), .int .u8 (q.nm.x5 : Int), .int .u8 (q.nm.x6 : Int), .int .u8 (q.nm.x7 : Int), .int .i64 q.no, .int .i64 q.h0, .int .i64 q.h1, .slice A3 n3 c3] 32)))
  (try replace HPq := Lib.hid (HPq.out.alloc (.cells #[.int .u8 (q.nm.x0 : Int), .int .u8 (q.nm.x1 : Int), .int .u8 (q.nm.x2 : Int), .int .u8 (q.nm.x3 : Int), .int .u8 (q.nm.x4 : Int), .int .u8 (q.nm.x5 : Int), .int .u8 (q.nm.x6 : Int), .int .u8 (q.nm.x7 : Int), .int .i64 q.no, .int .i64 q.h0, .int .i64 q.h1, .slice A3 n3 c3] 32)))
  (try replace HPa := Lib.hid (HPa.out.alloc (.cells #[.int .u8 (q.nm.x0 : Int), .int .u8 (q.nm.x1 : Int), .int .u8 (q.nm.x2 : Int), .int .u8 (q.nm.x3 : Int), .int .u8 (q.nm.x4 : Int), .int .u8 (q.nm.x5 : Int), .int .u8 (q.nm.x6 : Int), .int .u8 (q.nm.x7 : Int), .int .i64 q.no, .int .i64 q.h0, .int .i64 q.h1, .slice A3 n3 c3] 32)))
  (try replace HPb := Lib.hid (HPb.out.alloc (.cells #[.int .u8 (q.nm.x0 : Int), .int .u8 (q.nm.x1 : Int), .int .u8 (q.nm.x2 : Int), .int .u8 (q.nm.x3 : Int), .int .u8 (q.nm.x4 : Int), .int .u8 (q.nm.x5 : Int), .int .u8 (q.nm.x6 : Int), .int .u8 (q.nm.x7 : Int), .int .i64 q.no, .int .i64 q.h0, .int .i64 q.h1, .slice A3 n3 c3] 32)))
  (try replace HPc := Lib.hid (HPc.out.alloc (.cells #[.int .u8 (q.nm.x0 : Int), .int .u8 (q.nm.x1 : Int), .int .u8 (q.nm.x2 : Int), .int .u8 (q.nm.x3 : Int), .int .u8 (q.nm.x4 : Int), .int .u8 (q.nm.x5 : Int), .int .u8 (q.nm.x6 : Int), .int .u8 (q.nm.x7 : Int), .int .i64 q.no, .int .i64 q.h0, .int .i64 q.h1, .slice A3 n3 c3] 32)))
  (try replace HPd := Lib.hid (HPd.out.alloc (.cells #[.int .u8 (q.nm.x0 : Int), .int .u8 (q.nm.x1 : Int), .int .u8 (q.nm.x2 : Int), .int .u8 (q.nm.x3 : Int), .int .u8 (q.nm.x4 : Int), .int .u8 (q.nm.x5 : Int), .int .u8 (q.nm.x6 : Int), .int .u8 (q.nm.x7 : Int), .int .i64 q.no, .int .i64 q.h0, .int .i64 q.h1, .slice A3 n3 c3] 32)))
  replace HW := Lib.hid (HW.out.alloc HW.out.size (.cells #[.int .u8 (q.nm.x0 : Int), .int .u8 (q.nm.x1 : Int), .int .u8 (q.nm.x2 : Int), .int .u8 (q.nm.x3 : Int), .int .u8 (q.nm.x4 : Int), .int .u8 (q.nm.x5 : Int), .int .u8 (q.nm.x6 : Int), .int .u8 (q.nm.x7 : Int), .int .i64 q.no, .int .i64 q.h0, .int .i64 q.h1, .slice A3 n3 c3] 32))
  have HPq := HN; clear HN ho3
  obtain ⟨x0, x1, x2, x3, x4, x5, x6, x7, x8, x9, x10, x11⟩ := PBox.all HPq.out.blk
  by_cases he : e1 = 0
  · have b5 : (e1 != 0) = false := by simpa using he
    by_cases hno : 549755813888 < q.no
    · have b6 : decide (549755813888 < q.no) = true := decide_eq_true hno
      clear he hno
      go_wp2_with fail
      refine (told_any _).mono ?_
      rintro e wt ⟨rfl, hbt⟩
      replace HW := Lib.hid (HW.out.trans (hbt.mono HW.out.size))
      clear hbt
      go_wp2
      go_ret
      exact ⟨rfl, HW.out⟩
    have b6 : decide (549755813888 < q.no) = false := decide_eq_false hno
    obtain ⟨l1, l2⟩ := Hlaw.out he (by omega)
    obtain ⟨o1, o2⟩ := Hoth.out he (by omega)
    have hpn := (Hok.out he).1
    have hok := (Hok.out he).2.1
    have hck := check_iff.1 (next_ok hpn).1
    have L1 := Lib.hid l1; have L2 := Lib.hid l2; have O1 := Lib.hid o1; have O2 := Lib.hid o2
    obtain ⟨⟨n0, n1⟩, _⟩ := hck
    obtain ⟨_, _, u0, u1⟩ := hok
    simp only at u0 u1
    have e2 : ((p.upto 2).no != p.no + 2) = false := by simp [Pu.upto]
    have e3 : (p.upto 2).same (p.upto 2) = true := same_refl _
    have e4 : p.same p = true := same_refl _
    clear he hno l1 l2 o1 o2 hpn Hok Hlaw Hoth
    obtain ⟨y0, y1, y2, y3, y4, y5, y6, y7, y8, y9, y10, y11⟩ := TBox.all (d := (⟨1, h.nm, h.am, h.fr, h.un⟩ : Dd)) HBh.out
    go_wp2_with fail
    refine ((free_any q A3 n3 c3 h.nm 0 _ (HPq.out.val hql)).mono fun _ _ h => givesO h L1.out).mono ?_
    rintro e w4 ⟨A4, n4, c4, rfl, ho4, hb4⟩
    have s34 : w3.heap.size < w4.heap.size := by have := hb4.size; simp at this; omega
    replace ho4 := pown_down ho4 HW.out.size
    clear x0 x1 x2 x3 x4 x5 x6 x7 x8 x9 x10 x11 y0 y1 y2 y3 y4 y5 y6 y7 y8 y9 y10 y11
    (try replace HBp := Lib.hid (block_below HBp.out hb4 (block_lt HBp.out)))
    (try replace HBh := Lib.hid (block_below HBh.out hb4 (block_lt HBh.out)))
    (try replace HBo := Lib.hid (block_below HBo.out hb4 (block_lt HBo.out)))
    (try replace HPx := Lib.hid (HPx.out.below hb4))
    (try replace HPq := Lib.hid (HPq.out.below hb4))
    (try replace HPa := Lib.hid (HPa.out.below hb4))
    (try replace HPb := Lib.hid (HPb.out.below hb4))
    (try replace HPc := Lib.hid (HPc.out.below hb4))
    (try replace HPd := Lib.hid (HPd.out.below hb4))
    replace HW := Lib.hid (HW.out.trans (hb4.mono HW.out.size))
    clear hb4
    have HN := Lib.hid (PuO.new ho4 HW.out.size)
    (try replace HBp := Lib.hid (block_alloc HBp.out (.cells #[.int .u8 ((p.upto 2).nm.x0 : Int), .int .u8 ((p.upto 2).nm.x1 : Int), .int .u8 ((p.upto 2).nm.x2 : Int), .int .u8 ((p.upto 2).nm.x3 : Int), .int .u8 ((p.upto 2).nm.x4 : Int), .int .u8 ((p.upto 2).nm.x5 : Int), .int .u8 ((p.upto 2).nm.x6 : Int), .int .u8 ((p.upto 2).nm.x7 : Int), .int .i64 (p.upto 2).no, .int .i64 (p.upto 2).h0, .int .i64 (p.upto 2).h1, .slice A4 n4 c4] 32)))
    (try replace HBh := Lib.hid (block_alloc HBh.out (.cells #[.int .u8 ((p.upto 2).nm.x0 : Int), .int .u8 ((p.upto 2).nm.x1 : Int), .int .u8 ((p.upto 2).nm.x2 : Int), .int .u8 ((p.upto 2).nm.x3 : Int), .int .u8 ((p.upto 2).nm.x4 : Int), .int .u8 ((p.upto 2).nm.x5 : Int), .int .u8 ((p.upto 2).nm.x6 : Int), .int .u8 ((p.upto 2).nm.x7 : Int), .int .i64 (p.upto 2).no, .int .i64 (p.upto 2).h0, .int .i64 (p.upto 2).h1, .slice A4 n4 c4] 32)))
    (try replace HBo := Lib.hid (block_alloc HBo.out (.cells #[.int .u8 ((p.upto 2).nm.x0 : Int), .int .u8 ((p.upto 2).nm.x1 : Int), .int .u8 ((p.upto 2).nm.x2 : Int), .int .u8 ((p.upto 2).nm.x3 : Int), .int .u8 ((p.upto 2).nm.x4 : Int), .int .u8 ((p.upto 2).nm.x5 : Int), .int .u8 ((p.upto 2).nm.x6 : Int), .int .u8 ((p.upto 2).nm.x7 : Int), .int .i64 (p.upto 2).no, .int .i64 (p.upto 2).h0, .int .i64 (p.upto 2).h1, .slice A4 n4 c4] 32)))
    (try replace HPx := Lib.hid (HPx.out.alloc (.cells #[.int .u8 ((p.upto 2).nm.x0 : Int), .int .u8 ((p.upto 2).nm.x1 : Int), .int .u8 ((p.upto 2).nm.x2 : Int), .int .u8 ((p.upto 2).nm.x3 : Int), .int .u8 ((p.upto 2).nm.x4 : Int), .int .u8 ((p.upto 2).nm.x5 : Int), .int .u8 ((p.upto 2).nm.x6 : Int), .int .u8 ((p.upto 2).nm.x7 : Int), .int .i64 (p.upto 2).no, .int .i64 (p.upto 2).h0, .int .i64 (p.upto 2).h1, .slice A4 n4 c4] 32)))
    (try replace HPq := Lib.hid (HPq.out.alloc (.cells #[.int .u8 ((p.upto 2).nm.x0 : Int), .int .u8 ((p.upto 2).nm.x1 : Int), .int .u8 ((p.upto 2).nm.x2 : Int), .int .u8 ((p.upto 2).nm.x3 : Int), .int .u8 ((p.upto 2).nm.x4 : Int), .int .u8 ((p.upto 2).nm.x5 : Int), .int .u8 ((p.upto 2).nm.x6 : Int), .int .u8 ((p.upto 2).nm.x7 : Int), .int .i64 (p.upto 2).no, .int .i64 (p.upto 2).h0, .int .i64 (p.upto 2).h1, .slice A4 n4 c4] 32)))
    (try replace HPa := Lib.hid (HPa.out.alloc (.cells #[.int .u8 ((p.upto 2).nm.x0 : Int), .int .u8 ((p.upto 2).nm.x1 : Int), .int .u8 ((p.upto 2).nm.x2 : Int), .int .u8 ((p.upto 2).nm.x3 : Int), .int .u8 ((p.upto 2).nm.x4 : Int), .int .u8 ((p.upto 2).nm.x5 : Int), .int .u8 ((p.upto 2).nm.x6 : Int), .int .u8 ((p.upto 2).nm.x7 : Int), .int .i64 (p.upto 2).no, .int .i64 (p.upto 2).h0, .int .i64 (p.upto 2).h1, .slice A4 n4 c4] 32)))
    (try replace HPb := Lib.hid (HPb.out.alloc (.cells #[.int .u8 ((p.upto 2).nm.x0 : Int), .int .u8 ((p.upto 2).nm.x1 : Int), .int .u8 ((p.upto 2).nm.x2 : Int), .int .u8 ((p.upto 2).nm.x3 : Int), .int .u8 ((p.upto 2).nm.x4 : Int), .int .u8 ((p.upto 2).nm.x5 : Int), .int .u8 ((p.upto 2).nm.x6 : Int), .int .u8 ((p.upto 2).nm.x7 : Int), .int .i64 (p.upto 2).no, .int .i64 (p.upto 2).h0, .int .i64 (p.upto 2).h1, .slice A4 n4 c4] 32)))
    (try replace HPc := Lib.hid (HPc.out.alloc (.cells #[.int .u8 ((p.upto 2).nm.x0 : Int), .int .u8 ((p.upto 2).nm.x1 : Int), .int .u8 ((p.upto 2).nm.x2 : Int), .int .u8 ((p.upto 2).nm.x3 : Int), .int .u8 ((p.upto 2).nm.x4 : Int), .int .u8 ((p.upto 2).nm.x5 : Int), .int .u8 ((p.upto 2).nm.x6 : Int), .int .u8 ((p.upto 2).nm.x7 : Int), .int .i64 (p.upto 2).no, .int .i64 (p.upto 2).h0, .int .i64 (p.upto 2).h1, .slice A4 n4 c4] 32)))
    (try replace HPd := Lib.hid (HPd.out.alloc (.cells #[.int .u8 ((p.upto 2).nm.x0 : Int), .int .u8 ((p.upto 2).nm.x1 : Int), .int .u8 ((p.upto 2).nm.x2 : Int), .int .u8 ((p.upto 2).nm.x3 : Int), .int .u8 ((p.upto 2).nm.x4 : Int), .int .u8 ((p.upto 2).nm.x5 : Int), .int .u8 ((p.upto 2).nm.x6 : Int), .int .u8 ((p.upto 2).nm.x7 : Int), .int .i64 (p.upto 2).no, .int .i64 (p.upto 2).h0, .int .i64 (p.upto 2).h1, .slice A4 n4 c4] 32)))
    replace HW := Lib.hid (HW.out.alloc HW.out.size (.cells #[.int .u8 ((p.upto 2).nm.x0 : Int), .int .u8 ((p.upto 2).nm.x1 : Int), .int .u8 ((p.upto 2).nm.x2 : Int), .int .u8 ((p.upto 2).nm.x3 : Int), .int .u8 ((p.upto 2).nm.x4 : Int), .int .u8 ((p.upto 2).nm.x5 : Int), .int .u8 ((p.upto 2).nm.x6 : Int), .int .u8 ((p.upto 2).nm.x7 : Int), .int .i64 (p.upto 2).no, .int .i64 (p.upto 2).h0, .int .i64 (p.upto 2).h1, .slice A4 n4 c4] 32))
    have HPa := HN; clear HN ho4
    obtain ⟨x0, x1, x2, x3, x4, x5, x6, x7, x8, x9, x10, x11⟩ := PBox.all HPq.out.blk
    obtain ⟨y0, y1, y2, y3, y4, y5, y6, y7, y8, y9, y10, y11⟩ := TBox.all (d := (⟨1, h.nm, h.am, h.fr, h.un⟩ : Dd)) HBh.out
    go_wp2_with fail
    refine ((back_any q A3 n3 c3 h.nm (h.un + 1) _ (HPq.out.val hql)).mono fun _ _ h => givesO h L2.out).mono ?_
    rintro e w5 ⟨A5, n5, c5, rfl, ho5, hb5⟩
    have s45 : w4.heap.size < w5.heap.size := by have := hb5.size; simp at this; omega
    replace ho5 := pown_down ho5 HW.out.size
    clear x0 x1 x2 x3 x4 x5 x6 x7 x8 x9 x10 x11 y0 y1 y2 y3 y4 y5 y6 y7 y8 y9 y10 y11
    (try replace HBp := Lib.hid (block_below HBp.out hb5 (block_lt HBp.out)))
    (try replace HBh := Lib.hid (block_below HBh.out hb5 (block_lt HBh.out)))
    (try replace HBo := Lib.hid (block_below HBo.out hb5 (block_lt HBo.out)))
    (try replace HPx := Lib.hid (HPx.out.below hb5))
    (try replace HPq := Lib.hid (HPq.out.below hb5))
    (try replace HPa := Lib.hid (HPa.out.below hb5))
    (try replace HPb := Lib.hid (HPb.out.below hb5))
    (try replace HPc := Lib.hid (HPc.out.below hb5))
    (try replace HPd := Lib.hid (HPd.out.below hb5))
    replace HW := Lib.hid (HW.out.trans (hb5.mono HW.out.size))
    clear hb5
    have HN := Lib.hid (PuO.new ho5 HW.out.size)
    (try replace HBp := Lib.hid (block_alloc HBp.out (.cells #[.int .u8 ((p.upto 2).nm.x0 : Int), .int .u8 ((p.upto 2).nm.x1 : Int), .int .u8 ((p.upto 2).nm.x2 : Int), .int .u8 ((p.upto 2).nm.x3 : Int), .int .u8 ((p.upto 2).nm.x4 : Int), .int .u8 ((p.upto 2).nm.x5 : Int), .int .u8 ((p.upto 2).nm.x6 : Int), .int .u8 ((p.upto 2).nm.x7 : Int), .int .i64 (p.upto 2).no, .int .i64 (p.upto 2).h0, .int .i64 (p.upto 2).h1, .slice A5 n5 c5] 32)))
    (try replace HBh := Lib.hid (block_alloc HBh.out (.cells #[.int .u8 ((p.upto 2).nm.x0 : Int), .int .u8 ((p.upto 2).nm.x1 : Int), .int .u8 ((p.upto 2).nm.x2 : Int), .int .u8 ((p.upto 2).nm.x3 : Int), .int .u8 ((p.upto 2).nm.x4 : Int), .int .u8 ((p.upto 2).nm.x5 : Int), .int .u8 ((p.upto 2).nm.x6 : Int), .int .u8 ((p.upto 2).nm.x7 : Int), .int .i64 (p.upto 2).no, .int .i64 (p.upto 2).h0, .int .i64 (p.upto 2).h1, .slice A5 n5 c5] 32)))
    (try replace HBo := Lib.hid (block_alloc HBo.out (.cells #[.int .u8 ((p.upto 2).nm.x0 : Int), .int .u8 ((p.upto 2).nm.x1 : Int), .int .u8 ((p.upto 2).nm.x2 : Int), .int .u8 ((p.upto 2).nm.x3 : Int), .int .u8 ((p.upto 2).nm.x4 : Int), .int .u8 ((p.upto 2).nm.x5 : Int), .int .u8 ((p.upto 2).nm.x6 : Int), .int .u8 ((p.upto 2).nm.x7 : Int), .int .i64 (p.upto 2).no, .int .i64 (p.upto 2).h0, .int .i64 (p.upto 2).h1, .slice A5 n5 c5] 32)))
    (try replace HPx := Lib.hid (HPx.out.alloc (.cells #[.int .u8 ((p.upto 2).nm.x0 : Int), .int .u8 ((p.upto 2).nm.x1 : Int), .int .u8 ((p.upto 2).nm.x2 : Int), .int .u8 ((p.upto 2).nm.x3 : Int), .int .u8 ((p.upto 2).nm.x4 : Int), .int .u8 ((p.upto 2).nm.x5 : Int), .int .u8 ((p.upto 2).nm.x6 : Int), .int .u8 ((p.upto 2).nm.x7 : Int), .int .i64 (p.upto 2).no, .int .i64 (p.upto 2).h0, .int .i64 (p.upto 2).h1, .slice A5 n5 c5] 32)))
    (try replace HPq := Lib.hid (HPq.out.alloc (.cells #[.int .u8 ((p.upto 2).nm.x0 : Int), .int .u8 ((p.upto 2).nm.x1 : Int), .int .u8 ((p.upto 2).nm.x2 : Int), .int .u8 ((p.upto 2).nm.x3 : Int), .int .u8 ((p.upto 2).nm.x4 : Int), .int .u8 ((p.upto 2).nm.x5 : Int), .int .u8 ((p.upto 2).nm.x6 : Int), .int .u8 ((p.upto 2).nm.x7 : Int), .int .i64 (p.upto 2).no, .int .i64 (p.upto 2).h0, .int .i64 (p.upto 2).h1, .slice A5 n5 c5] 32)))
    (try replace HPa := Lib.hid (HPa.out.alloc (.cells #[.int .u8 ((p.upto 2).nm.x0 : Int), .int .u8 ((p.upto 2).nm.x1 : Int), .int .u8 ((p.upto 2).nm.x2 : Int), .int .u8 ((p.upto 2).nm.x3 : Int), .int .u8 ((p.upto 2).nm.x4 : Int), .int .u8 ((p.upto 2).nm.x5 : Int), .int .u8 ((p.upto 2).nm.x6 : Int), .int .u8 ((p.upto 2).nm.x7 : Int), .int .i64 (p.upto 2).no, .int .i64 (p.upto 2).h0, .int .i64 (p.upto 2).h1, .slice A5 n5 c5] 32)))
    (try replace HPb := Lib.hid (HPb.out.alloc (.cells #[.int .u8 ((p.upto 2).nm.x0 : Int), .int .u8 ((p.upto 2).nm.x1 : Int), .int .u8 ((p.upto 2).nm.x2 : Int), .int .u8 ((p.upto 2).nm.x3 : Int), .int .u8 ((p.upto 2).nm.x4 : Int), .int .u8 ((p.upto 2).nm.x5 : Int), .int .u8 ((p.upto 2).nm.x6 : Int), .int .u8 ((p.upto 2).nm.x7 : Int), .int .i64 (p.upto 2).no, .int .i64 (p.upto 2).h0, .int .i64 (p.upto 2).h1, .slice A5 n5 c5] 32)))
    (try replace HPc := Lib.hid (HPc.out.alloc (.cells #[.int .u8 ((p.upto 2).nm.x0 : Int), .int .u8 ((p.upto 2).nm.x1 : Int), .int .u8 ((p.upto 2).nm.x2 : Int), .int .u8 ((p.upto 2).nm.x3 : Int), .int .u8 ((p.upto 2).nm.x4 : Int), .int .u8 ((p.upto 2).nm.x5 : Int), .int .u8 ((p.upto 2).nm.x6 : Int), .int .u8 ((p.upto 2).nm.x7 : Int), .int .i64 (p.upto 2).no, .int .i64 (p.upto 2).h0, .int .i64 (p.upto 2).h1, .slice A5 n5 c5] 32)))
    (try replace HPd := Lib.hid (HPd.out.alloc (.cells #[.int .u8 ((p.upto 2).nm.x0 : Int), .int .u8 ((p.upto 2).nm.x1 : Int), .int .u8 ((p.upto 2).nm.x2 : Int), .int .u8 ((p.upto 2).nm.x3 : Int), .int .u8 ((p.upto 2).nm.x4 : Int), .int .u8 ((p.upto 2).nm.x5 : Int), .int .u8 ((p.upto 2).nm.x6 : Int), .int .u8 ((p.upto 2).nm.x7 : Int), .int .i64 (p.upto 2).no, .int .i64 (p.upto 2).h0, .int .i64 (p.upto 2).h1, .slice A5 n5 c5] 32)))
    replace HW := Lib.hid (HW.out.alloc HW.out.size (.cells #[.int .u8 ((p.upto 2).nm.x0 : Int), .int .u8 ((p.upto 2).nm.x1 : Int), .int .u8 ((p.upto 2).nm.x2 : Int), .int .u8 ((p.upto 2).nm.x3 : Int), .int .u8 ((p.upto 2).nm.x4 : Int), .int .u8 ((p.upto 2).nm.x5 : Int), .int .u8 ((p.upto 2).nm.x6 : Int), .int .u8 ((p.upto 2).nm.x7 : Int), .int .i64 (p.upto 2).no, .int .i64 (p.upto 2).h0, .int .i64 (p.upto 2).h1, .slice A5 n5 c5] 32))
    have HPb := HN; clear HN ho5
    obtain ⟨x0, x1, x2, x3, x4, x5, x6, x7, x8, x9, x10, x11⟩ := PBox.all HPa.out.blk
    obtain ⟨y0, y1, y2, y3, y4, y5, y6, y7, y8, y9, y10, y11⟩ := PBox.all HPb.out.blk
    have hu2 : (p.upto 2).held.length ≤ 1000000 := hpl
    go_wp2_with fail
    refine (psame_any (p.upto 2) (p.upto 2) A4 A5 n4 c4 n5 c5 _ (HPa.out.val hu2) (HPb.out.val hu2)).mono ?_
    rintro e w6 ⟨rfl, hb6⟩
    have s56 : w5.heap.size < w6.heap.size := by have := hb6.size; simp at this; omega
    clear x0 x1 x2 x3 x4 x5 x6 x7 x8 x9 x10 x11 y0 y1 y2 y3 y4 y5 y6 y7 y8 y9 y10 y11
    (try replace HBp := Lib.hid (block_below HBp.out hb6 (block_lt HBp.out)))
    (try replace HBh := Lib.hid (block_below HBh.out hb6 (block_lt HBh.out)))
    (try replace HBo := Lib.hid (block_below HBo.out hb6 (block_lt HBo.out)))
    (try replace HPx := Lib.hid (HPx.out.below hb6))
    (try replace HPq := Lib.hid (HPq.out.below hb6))
    (try replace HPa := Lib.hid (HPa.out.below hb6))
    (try replace HPb := Lib.hid (HPb.out.below hb6))
    (try replace HPc := Lib.hid (HPc.out.below hb6))
    (try replace HPd := Lib.hid (HPd.out.below hb6))
    replace HW := Lib.hid (HW.out.trans (hb6.mono HW.out.size))
    clear hb6
    obtain ⟨x0, x1, x2, x3, x4, x5, x6, x7, x8, x9, x10, x11⟩ := PBox.all HPa.out.blk
    obtain ⟨y0, y1, y2, y3, y4, y5, y6, y7, y8, y9, y10, y11⟩ := PBox.all HPx.out.blk
    have xf := block_free HPa.out.blk
    have hne1 : w4.heap.size ≠ w2.heap.size := by omega
    have hne2 : w2.heap.size ≠ w4.heap.size := by omega
    go_wp2_with fail
    clear x0 x1 x2 x3 x4 x5 x6 x7 x8 x9 x10 x11 y0 y1 y2 y3 y4 y5 y6 y7 y8 y9 y10 y11 xf HPb HBp
    have hba := HPa.out.blk
    replace HPx := Lib.hid (HPx.out.set hba hne1 (by decide) 8 (.int .i64 p.no))
    replace HPq := Lib.hid (HPq.out.set hba (by omega) (by decide) 8 (.int .i64 p.no))
    replace HBh := Lib.hid (((pgrown_set (w := w6) w4.heap.size 8 (.int .i64 p.no)).block (w.heap.size + 1) (block_lt HBh.out) (by simp; omega)).trans HBh.out)
    replace HBo := Lib.hid (((pgrown_set (w := w6) w4.heap.size 8 (.int .i64 p.no)).block (w.heap.size + 2) (block_lt HBo.out) (by simp; omega)).trans HBo.out)
    replace HW := Lib.hid (HW.out.setCell (p := ⟨w4.heap.size, 8, none⟩) (by exact HPa.out.lo) (.int .i64 p.no))
    have hpa2 : PuO w.heap.size w4.heap.size p A4 n4 c4 (w6.setCell ⟨w4.heap.size, 8, none⟩ (.int .i64 p.no)) := HPa.out.setNo p.no
    replace HPa := Lib.hid hpa2
    clear hba hpa2
    refine (psame_any p p A4 A2 n4 c4 n2 c2 _ (HPa.out.val hpl) (HPx.out.val hpl)).mono ?_
    rintro e w7 ⟨rfl, hb7⟩
    (try replace HBp := Lib.hid (block_below HBp.out hb7 (block_lt HBp.out)))
    (try replace HBh := Lib.hid (block_below HBh.out hb7 (block_lt HBh.out)))
    (try replace HBo := Lib.hid (block_below HBo.out hb7 (block_lt HBo.out)))
    (try replace HPx := Lib.hid (HPx.out.below hb7))
    (try replace HPq := Lib.hid (HPq.out.below hb7))
    (try replace HPa := Lib.hid (HPa.out.below hb7))
    (try replace HPb := Lib.hid (HPb.out.below hb7))
    (try replace HPc := Lib.hid (HPc.out.below hb7))
    (try replace HPd := Lib.hid (HPd.out.below hb7))
    replace HW := Lib.hid (HW.out.trans (hb7.mono HW.out.size))
    clear hb7
    clear HPa
    obtain ⟨x0, x1, x2, x3, x4, x5, x6, x7, x8, x9, x10, x11⟩ := PBox.all HPq.out.blk
    obtain ⟨y0, y1, y2, y3, y4, y5, y6, y7, y8, y9, y10, y11⟩ := TBox.all HBo.out
    go_wp2_with fail
    refine (do_any q A3 n3 c3 o _ (HPq.out.val hql) hw).mono ?_
    rintro e w8 ⟨A8, n8, c8, rfl, ho8, hb8⟩
    have hcl := deed_len (p := q) (d := o)
    have hdl := deed_len (p := p) (d := o)
    have Hkd := Lib.hid (deed_kept (p := p) (d := o))
    generalize q.deed o = rc at *
    obtain ⟨i, cc⟩ := rc
    replace ho8 := pown_down ho8 HW.out.size
    clear x0 x1 x2 x3 x4 x5 x6 x7 x8 x9 x10 x11 y0 y1 y2 y3 y4 y5 y6 y7 y8 y9 y10 y11
    (try replace HBp := Lib.hid (block_below HBp.out hb8 (block_lt HBp.out)))
    (try replace HBh := Lib.hid (block_below HBh.out hb8 (block_lt HBh.out)))
    (try replace HBo := Lib.hid (block_below HBo.out hb8 (block_lt HBo.out)))
    (try replace HPx := Lib.hid (HPx.out.below hb8))
    (try replace HPq := Lib.hid (HPq.out.below hb8))
    (try replace HPa := Lib.hid (HPa.out.below hb8))
    (try replace HPb := Lib.hid (HPb.out.below hb8))
    (try replace HPc := Lib.hid (HPc.out.below hb8))
    (try replace HPd := Lib.hid (HPd.out.below hb8))
    replace HW := Lib.hid (HW.out.trans (hb8.mono HW.out.size))
    clear hb8
    simp only at *
    have HN := Lib.hid (PuO.new ho8 HW.out.size)
    (try replace HBp := Lib.hid (block_alloc HBp.out (.cells #[.int .u8 (cc.nm.x0 : Int), .int .u8 (cc.nm.x1 : Int), .int .u8 (cc.nm.x2 : Int), .int .u8 (cc.nm.x3 : Int), .int .u8 (cc.nm.x4 : Int), .int .u8 (cc.nm.x5 : Int), .int .u8 (cc.nm.x6 : Int), .int .u8 (cc.nm.x7 : Int), .int .i64 cc.no, .int .i64 cc.h0, .int .i64 cc.h1, .slice A8 n8 c8] 32)))
    (try replace HBh := Lib.hid (block_alloc HBh.out (.cells #[.int .u8 (cc.nm.x0 : Int), .int .u8 (cc.nm.x1 : Int), .int .u8 (cc.nm.x2 : Int), .int .u8 (cc.nm.x3 : Int), .int .u8 (cc.nm.x4 : Int), .int .u8 (cc.nm.x5 : Int), .int .u8 (cc.nm.x6 : Int), .int .u8 (cc.nm.x7 : Int), .int .i64 cc.no, .int .i64 cc.h0, .int .i64 cc.h1, .slice A8 n8 c8] 32)))
    (try replace HBo := Lib.hid (block_alloc HBo.out (.cells #[.int .u8 (cc.nm.x0 : Int), .int .u8 (cc.nm.x1 : Int), .int .u8 (cc.nm.x2 : Int), .int .u8 (cc.nm.x3 : Int), .int .u8 (cc.nm.x4 : Int), .int .u8 (cc.nm.x5 : Int), .int .u8 (cc.nm.x6 : Int), .int .u8 (cc.nm.x7 : Int), .int .i64 cc.no, .int .i64 cc.h0, .int .i64 cc.h1, .slice A8 n8 c8] 32)))
    (try replace HPx := Lib.hid (HPx.out.alloc (.cells #[.int .u8 (cc.nm.x0 : Int), .int .u8 (cc.nm.x1 : Int), .int .u8 (cc.nm.x2 : Int), .int .u8 (cc.nm.x3 : Int), .int .u8 (cc.nm.x4 : Int), .int .u8 (cc.nm.x5 : Int), .int .u8 (cc.nm.x6 : Int), .int .u8 (cc.nm.x7 : Int), .int .i64 cc.no, .int .i64 cc.h0, .int .i64 cc.h1, .slice A8 n8 c8] 32)))
    (try replace HPq := Lib.hid (HPq.out.alloc (.cells #[.int .u8 (cc.nm.x0 : Int), .int .u8 (cc.nm.x1 : Int), .int .u8 (cc.nm.x2 : Int), .int .u8 (cc.nm.x3 : Int), .int .u8 (cc.nm.x4 : Int), .int .u8 (cc.nm.x5 : Int), .int .u8 (cc.nm.x6 : Int), .int .u8 (cc.nm.x7 : Int), .int .i64 cc.no, .int .i64 cc.h0, .int .i64 cc.h1, .slice A8 n8 c8] 32)))
    (try replace HPa := Lib.hid (HPa.out.alloc (.cells #[.int .u8 (cc.nm.x0 : Int), .int .u8 (cc.nm.x1 : Int), .int .u8 (cc.nm.x2 : Int), .int .u8 (cc.nm.x3 : Int), .int .u8 (cc.nm.x4 : Int), .int .u8 (cc.nm.x5 : Int), .int .u8 (cc.nm.x6 : Int), .int .u8 (cc.nm.x7 : Int), .int .i64 cc.no, .int .i64 cc.h0, .int .i64 cc.h1, .slice A8 n8 c8] 32)))
    (try replace HPb := Lib.hid (HPb.out.alloc (.cells #[.int .u8 (cc.nm.x0 : Int), .int .u8 (cc.nm.x1 : Int), .int .u8 (cc.nm.x2 : Int), .int .u8 (cc.nm.x3 : Int), .int .u8 (cc.nm.x4 : Int), .int .u8 (cc.nm.x5 : Int), .int .u8 (cc.nm.x6 : Int), .int .u8 (cc.nm.x7 : Int), .int .i64 cc.no, .int .i64 cc.h0, .int .i64 cc.h1, .slice A8 n8 c8] 32)))
    (try replace HPc := Lib.hid (HPc.out.alloc (.cells #[.int .u8 (cc.nm.x0 : Int), .int .u8 (cc.nm.x1 : Int), .int .u8 (cc.nm.x2 : Int), .int .u8 (cc.nm.x3 : Int), .int .u8 (cc.nm.x4 : Int), .int .u8 (cc.nm.x5 : Int), .int .u8 (cc.nm.x6 : Int), .int .u8 (cc.nm.x7 : Int), .int .i64 cc.no, .int .i64 cc.h0, .int .i64 cc.h1, .slice A8 n8 c8] 32)))
    (try replace HPd := Lib.hid (HPd.out.alloc (.cells #[.int .u8 (cc.nm.x0 : Int), .int .u8 (cc.nm.x1 : Int), .int .u8 (cc.nm.x2 : Int), .int .u8 (cc.nm.x3 : Int), .int .u8 (cc.nm.x4 : Int), .int .u8 (cc.nm.x5 : Int), .int .u8 (cc.nm.x6 : Int), .int .u8 (cc.nm.x7 : Int), .int .i64 cc.no, .int .i64 cc.h0, .int .i64 cc.h1, .slice A8 n8 c8] 32)))
    replace HW := Lib.hid (HW.out.alloc HW.out.size (.cells #[.int .u8 (cc.nm.x0 : Int), .int .u8 (cc.nm.x1 : Int), .int .u8 (cc.nm.x2 : Int), .int .u8 (cc.nm.x3 : Int), .int .u8 (cc.nm.x4 : Int), .int .u8 (cc.nm.x5 : Int), .int .u8 (cc.nm.x6 : Int), .int .u8 (cc.nm.x7 : Int), .int .i64 cc.no, .int .i64 cc.h0, .int .i64 cc.h1, .slice A8 n8 c8] 32))
    have HPc := HN; clear HN ho8 HPq
    obtain ⟨x0, x1, x2, x3, x4, x5, x6, x7, x8, x9, x10, x11⟩ := PBox.all HPx.out.blk
    obtain ⟨y0, y1, y2, y3, y4, y5, y6, y7, y8, y9, y10, y11⟩ := TBox.all HBo.out
    go_wp2_with fail
    refine (do_any p A2 n2 c2 o _ (HPx.out.val hpl) hw).mono ?_
    rintro e w9 ⟨A9, n9, c9, rfl, ho9, hb9⟩
    have s89 : w8.heap.size < w9.heap.size := by have := hb9.size; simp at this; omega
    generalize p.deed o = rd at *
    obtain ⟨j, dd⟩ := rd
    replace ho9 := pown_down ho9 HW.out.size
    clear x0 x1 x2 x3 x4 x5 x6 x7 x8 x9 x10 x11 y0 y1 y2 y3 y4 y5 y6 y7 y8 y9 y10 y11
    (try replace HBp := Lib.hid (block_below HBp.out hb9 (block_lt HBp.out)))
    (try replace HBh := Lib.hid (block_below HBh.out hb9 (block_lt HBh.out)))
    (try replace HBo := Lib.hid (block_below HBo.out hb9 (block_lt HBo.out)))
    (try replace HPx := Lib.hid (HPx.out.below hb9))
    (try replace HPq := Lib.hid (HPq.out.below hb9))
    (try replace HPa := Lib.hid (HPa.out.below hb9))
    (try replace HPb := Lib.hid (HPb.out.below hb9))
    (try replace HPc := Lib.hid (HPc.out.below hb9))
    (try replace HPd := Lib.hid (HPd.out.below hb9))
    replace HW := Lib.hid (HW.out.trans (hb9.mono HW.out.size))
    clear hb9
    simp only at *
    have HN := Lib.hid (PuO.new ho9 HW.out.size)
    (try replace HBp := Lib.hid (block_alloc HBp.out (.cells #[.int .u8 (dd.nm.x0 : Int), .int .u8 (dd.nm.x1 : Int), .int .u8 (dd.nm.x2 : Int), .int .u8 (dd.nm.x3 : Int), .int .u8 (dd.nm.x4 : Int), .int .u8 (dd.nm.x5 : Int), .int .u8 (dd.nm.x6 : Int), .int .u8 (dd.nm.x7 : Int), .int .i64 dd.no, .int .i64 dd.h0, .int .i64 dd.h1, .slice A9 n9 c9] 32)))
    (try replace HBh := Lib.hid (block_alloc HBh.out (.cells #[.int .u8 (dd.nm.x0 : Int), .int .u8 (dd.nm.x1 : Int), .int .u8 (dd.nm.x2 : Int), .int .u8 (dd.nm.x3 : Int), .int .u8 (dd.nm.x4 : Int), .int .u8 (dd.nm.x5 : Int), .int .u8 (dd.nm.x6 : Int), .int .u8 (dd.nm.x7 : Int), .int .i64 dd.no, .int .i64 dd.h0, .int .i64 dd.h1, .slice A9 n9 c9] 32)))
    (try replace HBo := Lib.hid (block_alloc HBo.out (.cells #[.int .u8 (dd.nm.x0 : Int), .int .u8 (dd.nm.x1 : Int), .int .u8 (dd.nm.x2 : Int), .int .u8 (dd.nm.x3 : Int), .int .u8 (dd.nm.x4 : Int), .int .u8 (dd.nm.x5 : Int), .int .u8 (dd.nm.x6 : Int), .int .u8 (dd.nm.x7 : Int), .int .i64 dd.no, .int .i64 dd.h0, .int .i64 dd.h1, .slice A9 n9 c9] 32)))
    (try replace HPx := Lib.hid (HPx.out.alloc (.cells #[.int .u8 (dd.nm.x0 : Int), .int .u8 (dd.nm.x1 : Int), .int .u8 (dd.nm.x2 : Int), .int .u8 (dd.nm.x3 : Int), .int .u8 (dd.nm.x4 : Int), .int .u8 (dd.nm.x5 : Int), .int .u8 (dd.nm.x6 : Int), .int .u8 (dd.nm.x7 : Int), .int .i64 dd.no, .int .i64 dd.h0, .int .i64 dd.h1, .slice A9 n9 c9] 32)))
    (try replace HPq := Lib.hid (HPq.out.alloc (.cells #[.int .u8 (dd.nm.x0 : Int), .int .u8 (dd.nm.x1 : Int), .int .u8 (dd.nm.x2 : Int), .int .u8 (dd.nm.x3 : Int), .int .u8 (dd.nm.x4 : Int), .int .u8 (dd.nm.x5 : Int), .int .u8 (dd.nm.x6 : Int), .int .u8 (dd.nm.x7 : Int), .int .i64 dd.no, .int .i64 dd.h0, .int .i64 dd.h1, .slice A9 n9 c9] 32)))
    (try replace HPa := Lib.hid (HPa.out.alloc (.cells #[.int .u8 (dd.nm.x0 : Int), .int .u8 (dd.nm.x1 : Int), .int .u8 (dd.nm.x2 : Int), .int .u8 (dd.nm.x3 : Int), .int .u8 (dd.nm.x4 : Int), .int .u8 (dd.nm.x5 : Int), .int .u8 (dd.nm.x6 : Int), .int .u8 (dd.nm.x7 : Int), .int .i64 dd.no, .int .i64 dd.h0, .int .i64 dd.h1, .slice A9 n9 c9] 32)))
    (try replace HPb := Lib.hid (HPb.out.alloc (.cells #[.int .u8 (dd.nm.x0 : Int), .int .u8 (dd.nm.x1 : Int), .int .u8 (dd.nm.x2 : Int), .int .u8 (dd.nm.x3 : Int), .int .u8 (dd.nm.x4 : Int), .int .u8 (dd.nm.x5 : Int), .int .u8 (dd.nm.x6 : Int), .int .u8 (dd.nm.x7 : Int), .int .i64 dd.no, .int .i64 dd.h0, .int .i64 dd.h1, .slice A9 n9 c9] 32)))
    (try replace HPc := Lib.hid (HPc.out.alloc (.cells #[.int .u8 (dd.nm.x0 : Int), .int .u8 (dd.nm.x1 : Int), .int .u8 (dd.nm.x2 : Int), .int .u8 (dd.nm.x3 : Int), .int .u8 (dd.nm.x4 : Int), .int .u8 (dd.nm.x5 : Int), .int .u8 (dd.nm.x6 : Int), .int .u8 (dd.nm.x7 : Int), .int .i64 dd.no, .int .i64 dd.h0, .int .i64 dd.h1, .slice A9 n9 c9] 32)))
    (try replace HPd := Lib.hid (HPd.out.alloc (.cells #[.int .u8 (dd.nm.x0 : Int), .int .u8 (dd.nm.x1 : Int), .int .u8 (dd.nm.x2 : Int), .int .u8 (dd.nm.x3 : Int), .int .u8 (dd.nm.x4 : Int), .int .u8 (dd.nm.x5 : Int), .int .u8 (dd.nm.x6 : Int), .int .u8 (dd.nm.x7 : Int), .int .i64 dd.no, .int .i64 dd.h0, .int .i64 dd.h1, .slice A9 n9 c9] 32)))
    replace HW := Lib.hid (HW.out.alloc HW.out.size (.cells #[.int .u8 (dd.nm.x0 : Int), .int .u8 (dd.nm.x1 : Int), .int .u8 (dd.nm.x2 : Int), .int .u8 (dd.nm.x3 : Int), .int .u8 (dd.nm.x4 : Int), .int .u8 (dd.nm.x5 : Int), .int .u8 (dd.nm.x6 : Int), .int .u8 (dd.nm.x7 : Int), .int .i64 dd.no, .int .i64 dd.h0, .int .i64 dd.h1, .slice A9 n9 c9] 32))
    have HPd := HN; clear HN ho9 HPx
    obtain rfl : i = j := O1.out
    clear O1
    by_cases hi : i = 0
    · have b7 : (i == 0) = true := by simpa using hi
      have b8 : (i != 0) = false := by simpa using hi
      obtain ⟨o3, _⟩ := O2.out hi
      have O3 := Lib.hid o3
      have hK := Hkd.out hi
      have hkn : 0 ≤ dd.no ∧ dd.no ≤ 1099511627777 := by have := hK.no; omega
      obtain ⟨m0, m1⟩ := hkn
      have e6 : (dd.no + 2 != dd.no + 2) = false := by simp
      have e7 : dd.same dd = true := same_refl _
      clear hi o3 hK O2 Hkd
      obtain ⟨x0, x1, x2, x3, x4, x5, x6, x7, x8, x9, x10, x11⟩ := PBox.all HPc.out.blk
      obtain ⟨y0, y1, y2, y3, y4, y5, y6, y7, y8, y9, y10, y11⟩ := TBox.all (d := (⟨1, h.nm, h.am, h.fr, h.un⟩ : Dd)) HBh.out
      have hcz := HPc.out.lt
      go_wp2_with fail
      refine ((free_any cc A8 n8 c8 h.nm 0 _ (HPc.out.val hcl)).mono fun _ _ h => givesO h O3.out).mono ?_
      rintro e w10 ⟨A10, n10, c10, rfl, ho10, hb10⟩
      replace ho10 := pown_down ho10 HW.out.size
      clear x0 x1 x2 x3 x4 x5 x6 x7 x8 x9 x10 x11 y0 y1 y2 y3 y4 y5 y6 y7 y8 y9 y10 y11 hcz
      (try replace HBp := Lib.hid (block_below HBp.out hb10 (block_lt HBp.out)))
      (try replace HBh := Lib.hid (block_below HBh.out hb10 (block_lt HBh.out)))
      (try replace HBo := Lib.hid (block_below HBo.out hb10 (block_lt HBo.out)))
      (try replace HPx := Lib.hid (HPx.out.below hb10))
      (try replace HPq := Lib.hid (HPq.out.below hb10))
      (try replace HPa := Lib.hid (HPa.out.below hb10))
      (try replace HPb := Lib.hid (HPb.out.below hb10))
      (try replace HPc := Lib.hid (HPc.out.below hb10))
      (try replace HPd := Lib.hid (HPd.out.below hb10))
      replace HW := Lib.hid (HW.out.trans (hb10.mono HW.out.size))
      clear hb10
      obtain ⟨x0, x1, x2, x3, x4, x5, x6, x7, x8, x9, x10, x11⟩ := PBox.all HPc.out.blk
      obtain ⟨y0, y1, y2, y3, y4, y5, y6, y7, y8, y9, y10, y11⟩ := PBox.all HPd.out.blk
      have xf := block_free HPc.out.blk
      have hne3 : w8.heap.size ≠ w9.heap.size := by omega
      have hne4 : w9.heap.size ≠ w8.heap.size := by omega
      have hcz := HPc.out.lt
      go_upto_region 22 with fail
      clear x0 x1 x2 x3 x4 x5 x6 x7 x8 x9 x10 x11 y0 y1 y2 y3 y4 y5 y6 y7 y8 y9 y10 y11 xf hcz
      obtain ⟨s1, s2⟩ := set12 HPc.out.blk rfl (⟨dd.nm, dd.no + 2, dd.h0, dd.h1, dd.held⟩ : Pu) A10 n10 c10
      have hC : PuO w.heap.size w8.heap.size (⟨dd.nm, dd.no + 2, dd.h0, dd.h1, dd.held⟩ : Pu) A10 n10 c10 _ := ⟨s1, ho10.kept s2 (.inr fun e => own_ne ho10 HPc.out.blk (by decide) e.symm), HPc.out.lo⟩
      have hD : PuO w.heap.size w9.heap.size dd A9 n9 c9 _ := ⟨(s2.block _ HPd.out.lt (fun e => hne4 (by injection e))).trans HPd.out.blk, HPd.out.own.kept s2 (.inr fun e => own_ne HPd.out.own HPc.out.blk (by decide) e.symm), HPd.out.lo⟩
      have hW := HW.out.grown s2 HW.out.size (fun k hk => by cases hk; exact HPc.out.lo)
      have HC := Lib.hid hC; have HD := Lib.hid hD; have HW11 := Lib.hid hW
      clear s1 s2 hC hD hW HPc HPd HW ho10
      generalize ((((((((((((w10.setCell ⟨w8.heap.size, 0, none⟩ (.int .u8 ((⟨dd.nm, dd.no + 2, dd.h0, dd.h1, dd.held⟩ : Pu).nm.x0 : Int))).setCell ⟨w8.heap.size, 1, none⟩ (.int .u8 ((⟨dd.nm, dd.no + 2, dd.h0, dd.h1, dd.held⟩ : Pu).nm.x1 : Int))).setCell ⟨w8.heap.size, 2, none⟩ (.int .u8 ((⟨dd.nm, dd.no + 2, dd.h0, dd.h1, dd.held⟩ : Pu).nm.x2 : Int))).setCell ⟨w8.heap.size, 3, none⟩ (.int .u8 ((⟨dd.nm, dd.no + 2, dd.h0, dd.h1, dd.held⟩ : Pu).nm.x3 : Int))).setCell ⟨w8.heap.size, 4, none⟩ (.int .u8 ((⟨dd.nm, dd.no + 2, dd.h0, dd.h1, dd.held⟩ : Pu).nm.x4 : Int))).setCell ⟨w8.heap.size, 5, none⟩ (.int .u8 ((⟨dd.nm, dd.no + 2, dd.h0, dd.h1, dd.held⟩ : Pu).nm.x5 : Int))).setCell ⟨w8.heap.size, 6, none⟩ (.int .u8 ((⟨dd.nm, dd.no + 2, dd.h0, dd.h1, dd.held⟩ : Pu).nm.x6 : Int))).setCell ⟨w8.heap.size, 7, none⟩ (.int .u8 ((⟨dd.nm, dd.no + 2, dd.h0, dd.h1, dd.held⟩ : Pu).nm.x7 : Int))).setCell ⟨w8.heap.size, 8, none⟩ (.int .i64 (⟨dd.nm, dd.no + 2, dd.h0, dd.h1, dd.held⟩ : Pu).no)).setCell ⟨w8.heap.size, 9, none⟩ (.int .i64 (⟨dd.nm, dd.no + 2, dd.h0, dd.h1, dd.held⟩ : Pu).h0)).setCell ⟨w8.heap.size, 10, none⟩ (.int .i64 (⟨dd.nm, dd.no + 2, dd.h0, dd.h1, dd.held⟩ : Pu).h1)).setCell ⟨w8.heap.size, 11, none⟩ (.slice A10 n10 c10)) = w11 at *
      obtain ⟨x0, x1, x2, x3, x4, x5, x6, x7, x8, x9, x10, x11⟩ := PBox.all HC.out.blk
      obtain ⟨y0, y1, y2, y3, y4, y5, y6, y7, y8, y9, y10, y11⟩ := PBox.all HD.out.blk
      have xf := block_free HC.out.blk
      simp only at x0 x1 x2 x3 x4 x5 x6 x7 x8 x9 x10 x11
      have hgen : Hid (PuO w.heap.size w8.heap.size dd A10 n10 c10 (w11.setCell ⟨w8.heap.size, 8, none⟩ (.int .i64 dd.no))) := HC.out.setNo dd.no
      have hgd : Hid (PuO w.heap.size w9.heap.size dd A9 n9 c9 (w11.setCell ⟨w8.heap.size, 8, none⟩ (.int .i64 dd.no))) := HD.out.set HC.out.blk hne3 (by decide) 8 (.int .i64 dd.no)
      have hgw : Hid (Below w.heap.size w (w11.setCell ⟨w8.heap.size, 8, none⟩ (.int .i64 dd.no))) := HW11.out.setCell (by exact HC.out.lo) _
      go_wp2_with fail
      clear x0 x1 x2 x3 x4 x5 x6 x7 x8 x9 x10 x11 y0 y1 y2 y3 y4 y5 y6 y7 y8 y9 y10 y11 xf
      refine (psame_any dd dd A10 A9 n10 c10 n9 c9 _ (hgen.out.val hdl) (hgd.out.val hdl)).mono ?_
      rintro e w12 ⟨rfl, hb12⟩
      have HW := Lib.hid (hgw.out.trans (hb12.mono hgw.out.size))
      clear hb12
      go_wp2_with fail
      refine (told_any _).mono ?_
      rintro e wt ⟨rfl, hbt⟩
      replace HW := Lib.hid (HW.out.trans (hbt.mono HW.out.size))
      clear hbt
      go_wp2
      go_ret
      exact ⟨rfl, HW.out⟩
    · have b7 : (i == 0) = false := by simpa using hi
      have b8 : (i != 0) = true := by simpa using hi
      clear hi
      go_wp2_with fail
      refine (told_any _).mono ?_
      rintro e wt ⟨rfl, hbt⟩
      replace HW := Lib.hid (HW.out.trans (hbt.mono HW.out.size))
      clear hbt
      go_wp2
      go_ret
      exact ⟨rfl, HW.out⟩
  · have b5 : (e1 != 0) = true := by simpa using he
    clear he
    go_wp2_with fail
    refine (told_any _).mono ?_
    rintro e wt ⟨rfl, hbt⟩
    replace HW := Lib.hid (HW.out.trans (hbt.mono HW.out.size))
    clear hbt
    go_wp2
    go_ret
    exact ⟨rfl, HW.out⟩
end Go.Proofs.Ytjiecnoplnaahaa
