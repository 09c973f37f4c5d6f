/- The program's Leaf of a ring: which key of it is a message's. Condition: none. Acts upon a ring, in rows and as they come in. Condition: the row's own. A ring of the program and one of the document's beside it, step by step. Condition: none. -/
import Derived.Test.YtmpklplojfjfbaaGreatDoorJoinY
import Derived.Test.YtmpklplojfjfbaaGreatDoorKeOp
import Derived.Test.YtmpklplojfjfbaaGreatDoorJoinU
import Derived.Test.YtmpklplojfjfbaaGreatDoorJoinT
import Derived.Test.YtmpklplojfjfbaaGreatDoorJoinN
import Derived.Test.YtmpklplojfjfbaaGreatDoorJoinQ
import Derived.Test.YtmpklplojfjfbaaGreatDoorKiD
namespace Go.Proofs.YtmpklplojfjfbaaGreatDoor
open Go.RowKit Go.Lib



/-- What the program's Leaf answers. -/
def leafP (L : List D8) (m : D8) : Value := match posD L m with
  | some i => .tuple #[.int .i64 (i : Int), .bool true]
  | none => .tuple #[.int .i64 0, .bool false]
set_option maxRecDepth 100000 in
set_option maxHeartbeats 4000000 in
theorem leaf_any {w : World} {B : Nat} {F : Nat → Prop} {T0 T1 br : Nat} {r : RingM} (m : D8) (a : RingAt w B F T0 T1 br r) (hm : m.ok) :
    Calls Tryz.prog 19 #[.pointer (some ⟨br, 0, none⟩), .agg #[.int .u8 (m.x0 : Int), .int .u8 (m.x1 : Int), .int .u8 (m.x2 : Int), .int .u8 (m.x3 : Int), .int .u8 (m.x4 : Int), .int .u8 (m.x5 : Int), .int .u8 (m.x6 : Int), .int .u8 (m.x7 : Int)]] w fun e w' => e = .returned (leafP r.led m) ∧ Below w.heap.size w w' := by
  obtain ⟨mb, bt, l, ht⟩ := a.led
  obtain ⟨A, c, hb, _, _⟩ := l.cells
  have hlb := block_lt hb
  have HX2 : Hid ((w.alloc (.cells #[.int .u8 (m.x0 : Int), .int .u8 (m.x1 : Int), .int .u8 (m.x2 : Int), .int .u8 (m.x3 : Int), .int .u8 (m.x4 : Int), .int .u8 (m.x5 : Int), .int .u8 (m.x6 : Int), .int .u8 (m.x7 : Int)] 38)).heap[w.heap.size]? = some (.cells #[.int .u8 (m.x0 : Int), .int .u8 (m.x1 : Int), .int .u8 (m.x2 : Int), .int .u8 (m.x3 : Int), .int .u8 (m.x4 : Int), .int .u8 (m.x5 : Int), .int .u8 (m.x6 : Int), .int .u8 (m.x7 : Int)] 38 (0, 0))) := Lib.hid (heap_alloc_new w _)
  have HB2 := Lib.hid (block_alloc hb (.cells #[.int .u8 (m.x0 : Int), .int .u8 (m.x1 : Int), .int .u8 (m.x2 : Int), .int .u8 (m.x3 : Int), .int .u8 (m.x4 : Int), .int .u8 (m.x5 : Int), .int .u8 (m.x6 : Int), .int .u8 (m.x7 : Int)] 38))
  have HK2 := Lib.hid (h_one w (.cells #[.int .u8 (m.x0 : Int), .int .u8 (m.x1 : Int), .int .u8 (m.x2 : Int), .int .u8 (m.x3 : Int), .int .u8 (m.x4 : Int), .int .u8 (m.x5 : Int), .int .u8 (m.x6 : Int), .int .u8 (m.x7 : Int)] 38))
  have hlook := look_placesD (w := (w.alloc (.cells #[.int .u8 (m.x0 : Int), .int .u8 (m.x1 : Int), .int .u8 (m.x2 : Int), .int .u8 (m.x3 : Int), .int .u8 (m.x4 : Int), .int .u8 (m.x5 : Int), .int .u8 (m.x6 : Int), .int .u8 (m.x7 : Int)] 38)).drew) (l.map.same (Below.heap_alloc w _ _ l.map.lt)) l.nodup l.ok m hm
  have hs2 : w.heap.size < (w.alloc (.cells #[.int .u8 (m.x0 : Int), .int .u8 (m.x1 : Int), .int .u8 (m.x2 : Int), .int .u8 (m.x3 : Int), .int .u8 (m.x4 : Int), .int .u8 (m.x5 : Int), .int .u8 (m.x6 : Int), .int .u8 (m.x7 : Int)] 38)).heap.size := by simp
  simp only [D8.V] at hlook
  clear hb l hm ht a
  have Hlp : Hid (leafP r.led m = match posD r.led m with | some i => .tuple #[.int .i64 (i : Int), .bool true] | none => .tuple #[.int .i64 0, .bool false]) := Lib.hid rfl
  go_enter Tryz.func19, Tryz.ntmps19
  go_upto_region 3 with fail
  generalize w.alloc (.cells #[.int .u8 (m.x0 : Int), .int .u8 (m.x1 : Int), .int .u8 (m.x2 : Int), .int .u8 (m.x3 : Int), .int .u8 (m.x4 : Int), .int .u8 (m.x5 : Int), .int .u8 (m.x6 : Int), .int .u8 (m.x7 : Int)] 38) = w2 at *
  obtain ⟨yf, y0, y1, y2, y3, y4, y5, y6, y7, y8, y9, y10, y11⟩ := freeR HB2.out
  clear y0 y1 y2 y3 y4 y5 y6 y7 y8 y9 y10
  obtain ⟨zf, x0, x1, x2, x3, x4, x5, x6, x7⟩ := free8 HX2.out
  have hbk2 := block_lt HB2.out
  cases hp : posD r.led m with
  | some i =>
    have hlp := Hlp.out
    rw [hp] at hlp hlook
    simp only at hlp hlook
    have Hl := Lib.hid hlp
    clear hp hlp Hlp
    go_region
    all_goals
      clear hlook
      go_wp2
      go_ret2
      rw [Hl.out]
      exact ⟨rfl, HK2.out.drew⟩
  | none =>
    have hlp := Hlp.out
    rw [hp] at hlp hlook
    simp only at hlp hlook
    have Hl := Lib.hid hlp
    clear hp hlp Hlp
    go_region
    all_goals
      clear hlook
      go_wp2
      go_ret2
      rw [Hl.out]
      exact ⟨rfl, HK2.out.drew⟩
end Go.Proofs.YtmpklplojfjfbaaGreatDoor
namespace Go.Proofs.YtmpklplojfjfbaaGreatDoor
open Go.ChangeShapes Go.WideShapes Go.ChangeAt Go.RowKit Go.Joins Go.Deep
/-- An act: what is done, and of which message. -/
structure ActM where
  d : Nat
  m : D8
def ActM.ok (a : ActM) : Prop := a.d < 256 ∧ a.m.ok
def ActM.cells (a : ActM) : List Value := .int .u8 (a.d : Int) :: a.m.cells
def flatT (l : List ActM) : List Value := l.flatMap ActM.cells
def ActM.zero : ActM := ⟨0, D8.zero⟩
theorem ActM.zero_ok : ActM.zero.ok := ⟨by decide, D8.zero_ok⟩
theorem flatT_len (l : List ActM) : (flatT l).length = l.length * 9 := by
  induction l with
  | nil => rfl
  | cons i l ih =>
    have : flatT (i :: l) = i.cells ++ flatT l := by simp [flatT]
    rw [this, List.length_append, ih]; simp [ActM.cells, D8.cells]; omega
theorem flatT_at : ∀ (l : List ActM) (k j : Nat), k < l.length → j < 9 → (flatT l)[k * 9 + j]? = (l.getD k ActM.zero).cells[j]?
  | [], k, _, h, _ => by simp at h
  | i :: l, k, j, h, hj => by
    have e : flatT (i :: l) = i.cells ++ flatT l := by simp [flatT]
    have hc : i.cells.length = 9 := rfl
    rw [e]
    cases k with
    | zero => rw [List.getElem?_append_left (by omega)]; simp
    | succ k =>
      rw [List.getElem?_append_right (by omega), hc, show (k + 1) * 9 + j - 9 = k * 9 + j from by omega]
      have := flatT_at l k j (by simpa using h) hj
      simpa using this
theorem Rd.tlen {w : World} {B n : Nat} {A : Option Addr} {l : List ActM} (h : Rd w B 9 A n (flatT l)) : l.length = n := by have := h.1; rw [flatT_len] at this; omega
theorem Rd.ti {w : World} {B n : Nat} {A : Option Addr} {l : List ActM} (h : Rd w B 9 A n (flatT l)) {k : Nat} (hk : k < n) :
    ∃ b o, A = some ⟨b, o, none⟩ ∧ b < B ∧ ∀ j, j < 9 → w.cell? ⟨b, o + k * 9 + j, none⟩ = (l.getD k ActM.zero).cells[j]? := by
  have hl := h.tlen
  obtain ⟨b, o, e, hb, hc⟩ := h.2 (by omega)
  refine ⟨b, o, e, hb, fun j hj => ?_⟩
  have hs : ∃ u, (l.getD k ActM.zero).cells[j]? = some u := ⟨_, List.getElem?_eq_getElem (by simpa [ActM.cells, D8.cells] using hj)⟩
  obtain ⟨u, hu⟩ := hs
  rw [hu, Nat.add_assoc]
  exact hc (k * 9 + j) u ((flatT_at l k j (by omega) hj).trans hu)
theorem Rd.ti9 {w : World} {B n : Nat} {A : Option Addr} {l : List ActM} (h : Rd w B 9 A n (flatT l)) {k : Nat} (hk : k < n) :
    ∃ b o, A = some ⟨b, o, none⟩ ∧ b < B ∧ w.cell? ⟨b, o + k * 9, none⟩ = some (.int .u8 ((l.getD k ActM.zero).d : Int)) ∧ w.cell? ⟨b, o + k * 9 + 1, none⟩ = some (.int .u8 ((l.getD k ActM.zero).m.x0 : Int)) ∧ w.cell? ⟨b, o + k * 9 + 2, none⟩ = some (.int .u8 ((l.getD k ActM.zero).m.x1 : Int)) ∧ w.cell? ⟨b, o + k * 9 + 3, none⟩ = some (.int .u8 ((l.getD k ActM.zero).m.x2 : Int)) ∧ w.cell? ⟨b, o + k * 9 + 4, none⟩ = some (.int .u8 ((l.getD k ActM.zero).m.x3 : Int)) ∧ w.cell? ⟨b, o + k * 9 + 5, none⟩ = some (.int .u8 ((l.getD k ActM.zero).m.x4 : Int)) ∧ w.cell? ⟨b, o + k * 9 + 6, none⟩ = some (.int .u8 ((l.getD k ActM.zero).m.x5 : Int)) ∧ w.cell? ⟨b, o + k * 9 + 7, none⟩ = some (.int .u8 ((l.getD k ActM.zero).m.x6 : Int)) ∧ w.cell? ⟨b, o + k * 9 + 8, none⟩ = some (.int .u8 ((l.getD k ActM.zero).m.x7 : Int)) := by
  obtain ⟨b, o, e, hb, x⟩ := h.ti hk
  exact ⟨b, o, e, hb, x 0 (by decide), x 1 (by decide), x 2 (by decide), x 3 (by decide), x 4 (by decide), x 5 (by decide), x 6 (by decide), x 7 (by decide), x 8 (by decide)⟩
theorem getT_ok {l : List ActM} (h : ∀ d ∈ l, d.ok) (k : Nat) : (l.getD k ActM.zero).ok := by
  rw [List.getD_eq_getElem?_getD]
  rcases hk : l[k]? with _ | x
  · exact ActM.zero_ok
  · exact h x (List.mem_of_getElem? hk)
section
variable {H : Type} {enc : TypeId × Value → H} {W : World} {base : Nat}
theorem cellsA : Tryz.prog.cellsOf 48 = 9 := by kernel_rfl
set_option maxRecDepth 100000 in
theorem act_of_cells {n : Nat} {spare : Nat → Bool} {held : Bool} {cs : List Value} {x : DataW H × List MemPlace} (h : DataW.trod enc Tryz.prog W base spare held n 48 cs = some x) : ∃ a : ActM, cs = a.cells ∧ a.ok := by
  obtain ⟨xs, n, _, _, hl, hxl, hg⟩ := DataW.trod_struct Tryz.underlying48 h
  rw [cellsA] at hl
  have g0 : DataW.trod enc Tryz.prog W base spare held n 5 ((cs.drop 0).take (Tryz.prog.cellsOf 5)) = xs[0]? := hg 0 _ rfl
  have g1 : DataW.trod enc Tryz.prog W base spare held n 22 ((cs.drop 1).take (Tryz.prog.cellsOf 22)) = xs[1]? := hg 1 _ rfl
  rw [List.getElem?_eq_getElem (by rw [hxl]; decide)] at g0 g1
  rw [cellsU8] at g0
  rw [cellsD] at g1
  obtain ⟨b, e0, hb⟩ := byte_of_cells g0
  obtain ⟨m, e1, hm⟩ := d8_of_cells Tryz.underlying22 cellsD g1
  match cs, hl with
  | [c0, c1, c2, c3, c4, c5, c6, c7, c8], _ =>
    simp at e0 e1
    obtain ⟨rfl, rfl, rfl, rfl, rfl, rfl, rfl, rfl⟩ := e1
    subst e0
    exact ⟨⟨b, m⟩, rfl, hb, hm⟩
set_option maxRecDepth 100000 in
theorem open_acts {v : Value} {d : DataW H} {p : List MemPlace}
    (a0 : Value.okWide Tryz.prog W .any base 41 v) (h0 : DataW.Trod enc Tryz.prog W 0 (fun _ => true) true 41 v d p) :
    ∃ A n c l, v = .slice A n c ∧ Rd W W.heap.size 9 A n (flatT l) ∧ ∀ x ∈ l, x.ok := by
  obtain ⟨A, n, c, rfl⟩ := okWide_slice Tryz.underlying41 a0
  obtain ⟨fuel, hf⟩ := h0
  rcases open_slice Tryz.underlying41 hf with ⟨hcs, _⟩ | ⟨a, len, cap, m, k, D, Pl, hcs, _, hlc, hcm, hm, _, hi⟩
  · simp [Value.cells] at hcs
    obtain ⟨rfl, rfl, rfl⟩ := hcs
    exact ⟨_, _, _, [], rfl, Rd.empty, by simp⟩
  · simp [Value.cells] at hcs
    obtain ⟨rfl, rfl, rfl⟩ := hcs
    have hmn : n ≤ m := by rw [hm]; split <;> omega
    have hall : ∀ i, ∃ s : ActM, s.ok ∧ (i < n → ∀ j, j < 9 → W.cell? (a.add (i * 9 + j)) = s.cells[j]?) := by
      intro i
      by_cases hin : i < n
      · obtain ⟨cs', hc, ht'⟩ := hi i (by omega)
        rw [cellsA] at hc
        obtain ⟨_, hcl, hat⟩ := World.cells?_some hc
        obtain ⟨s, rfl, hsm⟩ := act_of_cells ht'
        exact ⟨s, hsm, fun _ j hj => by rw [← addr_add]; exact hat j hj⟩
      · exact ⟨ActM.zero, ActM.zero_ok, fun h => absurd h hin⟩
    let f := fun i => Classical.choose (hall i)
    have hfs : ∀ i, i < n → ∀ j, j < 9 → W.cell? (a.add (i * 9 + j)) = (f i).cells[j]? := fun i => (Classical.choose_spec (hall i)).2
    have hfm : ∀ i, (f i).ok := fun i => (Classical.choose_spec (hall i)).1
    refine ⟨_, _, _, (List.range n).map f, rfl, ?_, fun x hx => by obtain ⟨i, _, rfl⟩ := List.mem_map.1 hx; exact hfm i⟩
    refine ⟨by rw [flatT_len]; simp, fun hn => ?_⟩
    have h00 := hfs 0 hn 0 (by omega)
    have hsp : a.spot = none := by
      have h1 : W.cell? (a.add 0) = some (.int .u8 ((f 0).d : Int)) := h00
      exact addr_spot h1 rfl
    refine ⟨a.block, a.off, by cases a; simp_all, ?_, fun j u hu => ?_⟩
    · have h1 : W.cell? (a.add 0) = some (.int .u8 ((f 0).d : Int)) := h00
      rw [addr_flat hsp] at h1
      exact World.block_lt_of_cell? W ⟨a.block, a.off + 0, none⟩ h1
    · have hjl : j < n * 9 := by
        have := (List.getElem?_eq_some_iff.1 hu).1
        rw [flatT_len] at this; simpa using this
      have e := flatT_at ((List.range n).map f) (j / 9) (j % 9) (by simp; omega) (by omega)
      have ej : j / 9 * 9 + j % 9 = j := by omega
      rw [ej, hu] at e
      have h2 := hfs (j / 9) (by omega) (j % 9) (by omega)
      rw [ej, addr_flat hsp] at h2
      rw [h2, e]
      have hdn : j / 9 < n := by omega
      simp [List.getD_eq_getElem?_getD, hdn]
end
end Go.Proofs.YtmpklplojfjfbaaGreatDoor
namespace Go.Proofs.YtmpklplojfjfbaaGreatDoor
open Go.RowKit Go.Lib




/-- A ring with the ledger L, and the document's with the ledger M in the block bd. -/
structure KSt (w0 w : World) (bd : Nat) (a : D8) (q bx : Nat) (L M : List D8) (F : Nat → Prop) (T0 T1 : Nat) (A : Option Addr) (n c : Nat) : Prop where
  h : ∃ B, w0.heap.size ≤ B ∧ RingAt w B F T0 T1 bx ⟨a, q, L⟩
  b : w.heap[bd]? = some (.cells #[.int .u8 (a.x0 : Int), .int .u8 (a.x1 : Int), .int .u8 (a.x2 : Int), .int .u8 (a.x3 : Int), .int .u8 (a.x4 : Int), .int .u8 (a.x5 : Int), .int .u8 (a.x6 : Int), .int .u8 (a.x7 : Int), .int .i64 (q : Int), (.slice A n c)] 28 (0, 0))
  r : Rd w w.heap.size 8 A n (flatD M)
  ap : ∀ ad, A = some ad → ad.block < w.heap.size ∧ ad.block ≠ bd ∧ ¬ foot F T0 T1 ad.block
  nb : ¬ foot F T0 T1 bd
  bw : w0.heap.size ≤ bd
  bl : Below w0.heap.size w0 w
section
variable {w0 w w' : World} {bd : Nat} {a : D8} {q bx : Nat} {L M : List D8} {F : Nat → Prop} {T0 T1 : Nat} {A : Option Addr} {n c : Nat}
theorem KSt.lt (k : KSt w0 w bd a q bx L M F T0 T1 A n c) : ∀ z, foot F T0 T1 z → w0.heap.size ≤ z ∧ z < w.heap.size := by
  obtain ⟨B, hB, h⟩ := k.h
  intro z hz
  have := h.foot_lt z hz
  omega
theorem KSt.ok (k : KSt w0 w bd a q bx L M F T0 T1 A n c) : (RingM.mk a q L).ok := by
  obtain ⟨B, hB, h⟩ := k.h
  exact h.ok
theorem KSt.below (k : KSt w0 w bd a q bx L M F T0 T1 A n c) (hb : Below w.heap.size w w') : KSt w0 w' bd a q bx L M F T0 T1 A n c := by
  obtain ⟨B, hB, h⟩ := k.h
  exact ⟨⟨B, hB, h.below hb⟩, block_below k.b hb (block_lt k.b), (k.r.below hb (Nat.le_refl _)).more hb.size, fun ad e => ⟨Nat.lt_of_lt_of_le (k.ap ad e).1 hb.size, (k.ap ad e).2⟩, k.nb, k.bw, k.bl.trans (hb.mono k.bl.size)⟩
/-- The document's ring is written. -/
theorem KSt.row {v4 v5 : World} {M' : List D8} {A4 : Option Addr} {n4 c4 : Nat} (k : KSt w0 w bd a q bx L M F T0 T1 A n c) (hb : Below w.heap.size w v4) (hr : Rd v4 v4.heap.size 8 A4 n4 (flatD M')) (hf : Fresh w v4 A A4) (hg : v4.grownBy v5 (some bd)) (h5 : v5.heap[bd]? = some (.cells #[.int .u8 (a.x0 : Int), .int .u8 (a.x1 : Int), .int .u8 (a.x2 : Int), .int .u8 (a.x3 : Int), .int .u8 (a.x4 : Int), .int .u8 (a.x5 : Int), .int .u8 (a.x6 : Int), .int .u8 (a.x7 : Int), .int .i64 (q : Int), (.slice A4 n4 c4)] 28 (0, 0))) : KSt w0 v5 bd a q bx L M' F T0 T1 A4 n4 c4 := by
  have k4 := k.below hb
  obtain ⟨B, hB, h⟩ := k4.h
  have hap : ∀ ad, A4 = some ad → ad.block < v4.heap.size ∧ ad.block ≠ bd ∧ ¬ foot F T0 T1 ad.block := by
    intro ad e
    rcases hf with h1 | h1
    · subst h1
      exact k4.ap ad e
    · obtain ⟨h2, h3⟩ := h1 ad e
      have hbd := block_lt k.b
      exact ⟨h3, by omega, fun h4 => by have := (k.lt _ h4).2; omega⟩
  refine ⟨⟨B, hB, h.other (Chg.of_grown (F := fun z => z = bd) hg rfl) (fun z hz hf2 => by subst hz; exact k.nb hf2)⟩, h5, (rd_otherS hr (fun ad e => hg.block _ (hap ad e).1 (by intro e2; injection e2 with e2; exact (hap ad e).2.1 e2))).more hg.size, fun ad e => ⟨Nat.lt_of_lt_of_le (hap ad e).1 hg.size, (hap ad e).2⟩, k.nb, k.bw, k4.bl.grown hg k4.bl.size (fun z hz => by injection hz with hz; have := k.bw; omega)⟩
/-- The program's ring is changed. -/
theorem KSt.ring {G : Nat → Prop} {L' : List D8} {B : Nat} (k : KSt w0 w bd a q bx L M F T0 T1 A n c) (hB : w0.heap.size ≤ B) (hc : Chg F w w') (h : RingAt w' B G T0 T1 bx ⟨a, q, L'⟩) (hG : ∀ z, G z → F z ∨ w.heap.size ≤ z) : KSt w0 w' bd a q bx L' M G T0 T1 A n c := by
  have hbd := block_lt k.b
  have hn : ∀ z, z < w.heap.size → ¬ foot F T0 T1 z → ¬ foot G T0 T1 z := by
    intro z hz hf h2
    rcases h2 with h2 | h2
    · rcases hG z h2 with h3 | h3
      · exact hf (.inl h3)
      · omega
    · exact hf (.inr h2)
  exact ⟨⟨B, hB, h⟩, (hc.block _ hbd (fun hf => k.nb (.inl hf))).trans k.b, (rd_otherS k.r (fun ad e => hc.block _ (k.ap ad e).1 (fun hf => (k.ap ad e).2.2 (.inl hf)))).more hc.size, fun ad e => ⟨Nat.lt_of_lt_of_le (k.ap ad e).1 hc.size, (k.ap ad e).2.1, hn _ (k.ap ad e).1 (k.ap ad e).2.2⟩, hn _ hbd k.nb, k.bw, k.bl.trans (hc.below (fun z hz => (k.lt z (.inl hz)).1) k.bl.size)⟩
/-- The program's ring is another, newly read. -/
theorem KSt.fresh {G : Nat → Prop} {S0 S1 bx' B : Nat} {L' : List D8} (k : KSt w0 w bd a q bx L M F T0 T1 A n c) (hb : Below w.heap.size w w') (h : RingAt w' B G S0 S1 bx' ⟨a, q, L'⟩) (hB : w.heap.size ≤ B) : KSt w0 w' bd a q bx' L' M G S0 S1 A n c := by
  have k4 := k.below hb
  have hbd := block_lt k.b
  have hw := k.bl.size
  have hf : ∀ z, z < w.heap.size → ¬ foot G S0 S1 z := fun z hz hf => by have := (h.foot_lt z hf).1; omega
  exact ⟨⟨B, by omega, h⟩, k4.b, k4.r, fun ad e => ⟨(k4.ap ad e).1, (k4.ap ad e).2.1, hf _ (k.ap ad e).1⟩, hf _ hbd, k.bw, k4.bl⟩
/-- The cells of the document's ring are written anew. -/
theorem KSt.set {v4 : World} {M' : List D8} {A4 : Option Addr} {n4 c4 : Nat} (k : KSt w0 w bd a q bx L M F T0 T1 A n c) (hb : Below w.heap.size w v4) (hr : Rd v4 v4.heap.size 8 A4 n4 (flatD M')) (hf : Fresh w v4 A A4) : KSt w0 ((((((((((v4.setCell ⟨bd, 0, none⟩ (.int .u8 (a.x0 : Int))).setCell ⟨bd, 1, none⟩ (.int .u8 (a.x1 : Int))).setCell ⟨bd, 2, none⟩ (.int .u8 (a.x2 : Int))).setCell ⟨bd, 3, none⟩ (.int .u8 (a.x3 : Int))).setCell ⟨bd, 4, none⟩ (.int .u8 (a.x4 : Int))).setCell ⟨bd, 5, none⟩ (.int .u8 (a.x5 : Int))).setCell ⟨bd, 6, none⟩ (.int .u8 (a.x6 : Int))).setCell ⟨bd, 7, none⟩ (.int .u8 (a.x7 : Int))).setCell ⟨bd, 8, none⟩ (.int .i64 (q : Int))).setCell ⟨bd, 9, none⟩ (.slice A4 n4 c4)) bd a q bx L M' F T0 T1 A4 n4 c4 :=
  k.row hb hr hf (grown_set10 v4 bd _ _ _ _ _ _ _ _ _ _) (set10 (block_below k.b hb (block_lt k.b)) _ _ _ _ _ _ _ _ _ _)
theorem reserve_same (a : D8) (q : Nat) (L : List D8) (m : D8) : ((RingM.mk a q L).reserve m).1 = RingM.mk a q ((RingM.mk a q L).reserve m).1.led := by
  have h := RingM.reserve_secret (RingM.mk a q L) m
  generalize ((RingM.mk a q L).reserve m).1 = z at *
  obtain ⟨z1, z2, z3⟩ := z
  simp only at h ⊢
  rw [h.1, h.2]
theorem sign_same (a : D8) (q : Nat) (L : List D8) (m : D8) : ((RingM.mk a q L).sign m).1 = RingM.mk a q ((RingM.mk a q L).sign m).1.led := by
  rw [sign_ring]
  exact reserve_same a q L m
end
theorem neq_of_eqlT {P : Program} {t : TypeId} {xs ys : Array Value} {b : Bool} (h : ∀ u, (binOp .eql t (.agg xs) (.agg ys)).run P u = .ok (.bool b) u) : ∀ u, (binOp .neq t (.agg xs) (.agg ys)).run P u = .ok (.bool (!b)) u := by
  intro u
  have := h u
  rw [run_eql_struct] at this
  rw [run_neq_struct]
  revert this
  cases (Op.equalIn 10000 t (.agg xs) (.agg ys)).run P u <;> simp [Result.andThen]
end Go.Proofs.YtmpklplojfjfbaaGreatDoor
