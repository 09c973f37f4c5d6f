/- Purses and deeds that come in, opened. Condition: the row's own. -/
import Derived.Test.YthjpaclcoipocaaProg
import Derived.Test.YthjpaclcoipocaaPuE
import Derived.Test.YthjpaclcoipocaaJoinX
import Derived.Lib.SmallJoins
import Derived.Deep.Slices
import Derived.OpenShut
namespace Go.Proofs.Ythjpaclcoipocaa
open Go.ChangeShapes Go.WideShapes Go.ChangeAt Go.RowKit Go.Joins Go.Deep



theorem flat_any {α : Type} [Inhabited α] {f : α → List Value} {sz : Nat} (hf : ∀ a, (f a).length = sz) : ∀ (l : List α), (l.flatMap f).length = l.length * sz := by
  intro l
  induction l with
  | nil => simp
  | cons i l ih => rw [List.flatMap_cons, List.length_append, ih, hf, List.length_cons, Nat.add_mul]; omega
theorem flat_any_at {α : Type} [Inhabited α] {f : α → List Value} {sz : Nat} (hf : ∀ a, (f a).length = sz) : ∀ (l : List α) (k j : Nat), k < l.length → j < sz → (l.flatMap f)[k * sz + j]? = (f (l.getD k default))[j]? := by
  intro l
  induction l with
  | nil => intro k j h _; exact absurd h (by simp)
  | cons i l ih =>
    intro k j h hj
    rw [List.flatMap_cons]
    cases k with
    | zero =>
      rw [List.getElem?_append_left (by rw [hf]; omega)]
      simp
    | succ k =>
      rw [List.getElem?_append_right (by rw [hf, Nat.add_mul]; omega)]
      have h1 : (k + 1) * sz + j - (f i).length = k * sz + j := by rw [hf, Nat.add_mul]; omega
      rw [h1, ih k j (by simpa using h) hj]
      simp
section
variable {H : Type} {enc : TypeId × Value → H} {W : World} {base : Nat}
theorem cellsU8 : Try.prog.cellsOf 5 = 1 := by kernel_rfl
theorem cellsInt : Try.prog.cellsOf 3 = 1 := by kernel_rfl
theorem cellsD : Try.prog.cellsOf 22 = 8 := by kernel_rfl
theorem cellsTwo : Try.prog.cellsOf 23 = 2 := by kernel_rfl
theorem cellsHeldR : Try.prog.cellsOf 60 = 11 := by kernel_rfl
theorem cellsHelds : Try.prog.cellsOf 24 = 1 := by kernel_rfl
theorem cellsPurse : Try.prog.cellsOf 26 = 12 := by kernel_rfl
theorem addr_add (a : Addr) (i j : Nat) : (a.add i).add j = a.add (i + j) := by
  unfold Addr.add
  by_cases hi : i = 0 <;> by_cases hj : j = 0 <;> simp [hi, hj, Nat.add_assoc]
theorem addr_flat {a : Addr} (h : a.spot = none) (i : Nat) : a.add i = ⟨a.block, a.off + i, none⟩ := by
  unfold Addr.add
  split
  · subst_vars; cases a; simp_all
  · rfl
theorem addr_spot {a : Addr} {i : Nat} {w : World} {v : Value} (h : w.cell? (a.add i) = some v) (hi : i = 0) : a.spot = none := by
  subst hi
  have := World.cell?_spot h
  simpa [Addr.add] using this
theorem byte_of_cells {n : Nat} {spare : Nat → Bool} {held : Bool} {cs : List Value} {x : DataW H × List MemPlace} (h : DataW.trod enc Try.prog W base spare held n 5 cs = some x) : ∃ b : Nat, cs = [.int .u8 (b : Int)] ∧ b < 256 := by
  obtain ⟨m, rfl, _, hw⟩ := DataW.trod_int Try.underlying5 h
  obtain ⟨h0, h1⟩ := wf_u8 hw
  obtain ⟨b, rfl⟩ := Int.eq_ofNat_of_zero_le h0
  exact ⟨b, rfl, by omega⟩
theorem d8_of_cells {T : TypeId} (hT : Try.prog.underlying T = some (.array 8 5)) (hC : Try.prog.cellsOf T = 8) {n : Nat} {spare : Nat → Bool} {held : Bool} {cs : List Value} {x : DataW H × List MemPlace} (h : DataW.trod enc Try.prog W base spare held n T cs = some x) : ∃ d : D8, cs = [.int .u8 (d.x0 : Int), .int .u8 (d.x1 : Int), .int .u8 (d.x2 : Int), .int .u8 (d.x3 : Int), .int .u8 (d.x4 : Int), .int .u8 (d.x5 : Int), .int .u8 (d.x6 : Int), .int .u8 (d.x7 : Int)] ∧ d.ok := by
  obtain ⟨xs, m, _, _, hl, hx, hi⟩ := DataW.trod_array hT h
  rw [hC] at hl
  rw [cellsU8] at hi
  have get : ∀ i, i < 8 → ∃ b : Nat, (cs.drop (i * 1)).take 1 = [.int .u8 (b : Int)] ∧ b < 256 := fun i hi8 => by
    have h1 := hi i hi8
    rw [List.getElem?_eq_getElem (by omega)] at h1
    exact byte_of_cells h1
  obtain ⟨b0, e0, l0⟩ := get 0 (by omega)
  obtain ⟨b1, e1, l1⟩ := get 1 (by omega)
  obtain ⟨b2, e2, l2⟩ := get 2 (by omega)
  obtain ⟨b3, e3, l3⟩ := get 3 (by omega)
  obtain ⟨b4, e4, l4⟩ := get 4 (by omega)
  obtain ⟨b5, e5, l5⟩ := get 5 (by omega)
  obtain ⟨b6, e6, l6⟩ := get 6 (by omega)
  obtain ⟨b7, e7, l7⟩ := get 7 (by omega)
  match cs, hl with
  | [c0, c1, c2, c3, c4, c5, c6, c7], _ =>
    simp at e0 e1 e2 e3 e4 e5 e6 e7
    exact ⟨⟨b0, b1, b2, b3, b4, b5, b6, b7⟩, by simp [e0, e1, e2, e3, e4, e5, e6, e7], l0, l1, l2, l3, l4, l5, l6, l7⟩
theorem two_of_cells {n : Nat} {spare : Nat → Bool} {held : Bool} {cs : List Value} {x : DataW H × List MemPlace} (h : DataW.trod enc Try.prog W base spare held n 23 cs = some x) : ∃ a b : Int, cs = [.int .i64 a, .int .i64 b] := by
  obtain ⟨xs, m, _, _, hl, hx, hi⟩ := DataW.trod_array Try.underlying23 h
  rw [cellsTwo] at hl
  rw [cellsInt] at hi
  have get : ∀ i, i < 2 → ∃ b : Int, (cs.drop (i * 1)).take 1 = [.int .i64 b] := fun i hi8 => by
    have h1 := hi i hi8
    rw [List.getElem?_eq_getElem (by omega)] at h1
    obtain ⟨b, e, _, _⟩ := DataW.trod_int Try.underlying3 h1
    exact ⟨b, e⟩
  obtain ⟨b0, e0⟩ := get 0 (by omega)
  obtain ⟨b1, e1⟩ := get 1 (by omega)
  match cs, hl with
  | [c0, c1], _ =>
    simp at e0 e1
    exact ⟨b0, b1, by simp [e0, e1]⟩
set_option maxRecDepth 100000 in
theorem hd_of_cells {n : Nat} {spare : Nat → Bool} {held : Bool} {cs : List Value} {x : DataW H × List MemPlace} (h : DataW.trod enc Try.prog W base spare held n 60 cs = some x) : ∃ d : Hd, cs = d.cells ∧ d.nm.ok := by
  obtain ⟨xs, n, _, _, hl, hxl, hg⟩ := DataW.trod_struct Try.underlying60 h
  rw [cellsHeldR] at hl
  have g0 : DataW.trod enc Try.prog W base spare held n 22 ((cs.drop 0).take (Try.prog.cellsOf 22)) = xs[0]? := hg 0 _ rfl
  have g1 : DataW.trod enc Try.prog W base spare held n 3 ((cs.drop 8).take (Try.prog.cellsOf 3)) = xs[1]? := hg 1 _ rfl
  have g2 : DataW.trod enc Try.prog W base spare held n 3 ((cs.drop 9).take (Try.prog.cellsOf 3)) = xs[2]? := hg 2 _ rfl
  have g3 : DataW.trod enc Try.prog W base spare held n 3 ((cs.drop 10).take (Try.prog.cellsOf 3)) = xs[3]? := hg 3 _ rfl
  rw [cellsD] at g0
  rw [cellsInt] at g1 g2 g3
  simp at hxl
  rw [List.getElem?_eq_getElem (by omega)] at g0 g1 g2 g3
  obtain ⟨x, e0, ok⟩ := d8_of_cells Try.underlying22 cellsD g0
  obtain ⟨no, e1, _, _⟩ := DataW.trod_int Try.underlying3 g1
  obtain ⟨fe, e2, _, _⟩ := DataW.trod_int Try.underlying3 g2
  obtain ⟨ki, e3, _, _⟩ := DataW.trod_int Try.underlying3 g3
  refine ⟨⟨x, no, fe, ki⟩, ?_, ok⟩
  match cs, hl with
  | [c0, c1, c2, c3, c4, c5, c6, c7, c8, c9, c10], _ =>
    simp at e0 e1 e2 e3
    simp [e0, e1, e2, e3, Hd.cells]
set_option maxRecDepth 100000 in
theorem rows_of_cells {α : Type} [Inhabited α] {T E : TypeId} {sz : Nat} {f : α → List Value} {good : α → Prop} (hf : ∀ a, (f a).length = sz) (hsz : 0 < sz) (hT : Try.prog.underlying T = some (.slice E)) (hE : Try.prog.cellsOf E = sz)
    (hel : ∀ (b : Nat) (s : Nat → Bool) (h : Bool) (n : Nat) (cs : List Value) (x : DataW H × List MemPlace), DataW.trod enc Try.prog W b s h n E cs = some x → ∃ a, cs = f a ∧ good a) {n : Nat} {cs : List Value} {x : DataW H × List MemPlace} (h : DataW.trod enc Try.prog W 0 (fun _ => true) true n T cs = some x) :
    ∃ (A : Option Addr) (m c : Nat) (l : List α), cs = [.slice A m c] ∧ Rd W W.heap.size sz A m (l.flatMap f) ∧ m ≤ c ∧ m ≤ 9223372036854775807 ∧ ∀ k, k < l.length → good (l.getD k default) := by
  rcases open_slice hT h with ⟨hcs, _⟩ | ⟨a, len, cap, m, k, D, Pl, hcs, _, hlc, hcm, hm, _, hi⟩
  · exact ⟨none, 0, 0, [], hcs, by simpa using Rd.empty, by omega, by omega, by simp⟩
  · have hmn : len ≤ m := by rw [hm]; split <;> omega
    have hall : ∀ i, ∃ s : α, i < len → (good s ∧ ∀ j, j < sz → W.cell? (a.add (i * sz + j)) = (f s)[j]?) := by
      intro i
      by_cases hin : i < len
      · obtain ⟨cs', hc, ht'⟩ := hi i (by omega)
        rw [hE] at hc
        obtain ⟨_, hcl, hat⟩ := World.cells?_some hc
        obtain ⟨s, rfl, hg⟩ := hel _ _ _ _ _ _ ht'
        exact ⟨s, fun _ => ⟨hg, fun j hj => by rw [← addr_add]; exact hat j hj⟩⟩
      · exact ⟨default, fun h => absurd h hin⟩
    let g := fun i => Classical.choose (hall i)
    have hg : ∀ i, i < len → good (g i) := fun i h => (Classical.choose_spec (hall i) h).1
    have hfs : ∀ i, i < len → ∀ j, j < sz → W.cell? (a.add (i * sz + j)) = (f (g i))[j]? := fun i h => (Classical.choose_spec (hall i) h).2
    refine ⟨_, _, _, (List.range len).map g, hcs, ⟨by rw [flat_any hf]; simp, fun hn => ?_⟩, hlc, by simp only [maxLen] at hcm; omega, ?_⟩
    · have h0 := hfs 0 hn 0 hsz
      have h1 : (f (g 0))[0]? = some ((f (g 0))[0]'(by rw [hf]; exact hsz)) := List.getElem?_eq_getElem _
      rw [h1, Nat.zero_mul, Nat.zero_add] at h0
      have hsp : a.spot = none := addr_spot h0 rfl
      refine ⟨a.block, a.off, by cases a; simp_all, ?_, fun j u hu => ?_⟩
      · rw [addr_flat hsp] at h0
        exact World.block_lt_of_cell? W ⟨a.block, a.off + 0, none⟩ h0
      · have hjl : j < len * sz := by
          have := (List.getElem?_eq_some_iff.1 hu).1
          rw [flat_any hf] at this; simpa using this
        have hq : j / sz < len := by rw [Nat.div_lt_iff_lt_mul hsz]; exact hjl
        have hr : j % sz < sz := Nat.mod_lt _ hsz
        have ej : j / sz * sz + j % sz = j := by rw [Nat.mul_comm]; exact Nat.div_add_mod j sz
        have e := flat_any_at hf ((List.range len).map g) (j / sz) (j % sz) (by simpa using hq) hr
        rw [ej, hu] at e
        have h2 := hfs (j / sz) hq (j % sz) hr
        rw [ej, addr_flat hsp] at h2
        rw [h2, e]
        simp [List.getD_eq_getElem?_getD, hq]
    · intro k hk
      have hk' : k < len := by simpa using hk
      have := hg k hk'
      simpa [List.getD_eq_getElem?_getD, hk'] using this
/-- What a purse that comes in is. -/
structure PuIn (p : Pu) (A : Option Addr) (n c : Nat) (w : World) : Prop where
  rd : Rd w w.heap.size 11 A n (flatH p.held)
  cap : n ≤ c
  ok : p.nm.ok
  oks : ∀ k, k < p.held.length → (p.held.getD k default).nm.ok
set_option maxRecDepth 100000 in
theorem open_purse {v : Value} {d : DataW H} {p : List MemPlace} (a0 : Value.okWide Try.prog W .any base 26 v) (h0 : DataW.Trod enc Try.prog W 0 (fun _ => true) true 26 v d p) :
    ∃ (q : Pu) (A : Option Addr) (n c : Nat), v = .agg #[.int .u8 (q.nm.x0 : Int), .int .u8 (q.nm.x1 : Int), .int .u8 (q.nm.x2 : Int), .int .u8 (q.nm.x3 : Int), .int .u8 (q.nm.x4 : Int), .int .u8 (q.nm.x5 : Int), .int .u8 (q.nm.x6 : Int), .int .u8 (q.nm.x7 : Int), .int .i64 q.no, .int .i64 q.h0, .int .i64 q.h1, .slice A n c] ∧ PuIn q A n c W := by
  obtain ⟨cs, rfl, _⟩ := okWide_struct Try.underlying26 a0
  obtain ⟨fuel, hf⟩ := h0
  obtain ⟨xs, n, _, _, hl, hxl, hg⟩ := DataW.trod_struct Try.underlying26 hf
  rw [cellsPurse] at hl
  obtain ⟨l⟩ := cs
  simp only [Value.cells] at hl hg
  have g0 : DataW.trod enc Try.prog W 0 (fun _ => true) true n 22 ((l.drop 0).take (Try.prog.cellsOf 22)) = xs[0]? := hg 0 _ rfl
  have g1 : DataW.trod enc Try.prog W 0 (fun _ => true) true n 3 ((l.drop 8).take (Try.prog.cellsOf 3)) = xs[1]? := hg 1 _ rfl
  have g2 : DataW.trod enc Try.prog W 0 (fun _ => true) true n 23 ((l.drop 9).take (Try.prog.cellsOf 23)) = xs[2]? := hg 2 _ rfl
  have g3 : DataW.trod enc Try.prog W 0 (fun _ => true) true n 24 ((l.drop 11).take (Try.prog.cellsOf 24)) = xs[3]? := hg 3 _ rfl
  rw [cellsD] at g0
  rw [cellsInt] at g1
  rw [cellsTwo] at g2
  rw [cellsHelds] at g3
  simp at hxl
  rw [List.getElem?_eq_getElem (by omega)] at g0 g1 g2 g3
  obtain ⟨x, e0, ok⟩ := d8_of_cells Try.underlying22 cellsD g0
  obtain ⟨no, e1, _, _⟩ := DataW.trod_int Try.underlying3 g1
  obtain ⟨h0, h1, e2⟩ := two_of_cells g2
  obtain ⟨A, m, c, hs, e3, hr, hc, _, hok⟩ := rows_of_cells (f := Hd.cells) (good := fun d => d.nm.ok) (fun a => rfl) (by omega) Try.underlying24 cellsHeldR (fun _ _ _ _ _ _ h => hd_of_cells h) g3
  refine ⟨⟨x, no, h0, h1, hs⟩, A, m, c, ?_, ⟨hr, hc, ok, hok⟩⟩
  match l, hl with
  | [c0, c1, c2, c3, c4, c5, c6, c7, c8, c9, c10, c11], _ =>
    simp at e0 e1 e2 e3
    simp [e0, e1, e2, e3]
end
end Go.Proofs.Ythjpaclcoipocaa
